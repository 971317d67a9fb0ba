import Derived.Test.YtlkjdchmeihhkaaGreatDoorBk8
import Derived.Test.YtlkjdchmeihhkaaGreatDoorSimC
import Derived.Test.YtlkjdchmeihhkaaGreatDoorLawSrt
set_option autoImplicit true
set_option relaxedAutoImplicit true
set_option linter.all false
namespace Go.Proofs.YtlkjdchmeihhkaaGreatDoor
open Go Go.Sim
open Go.IntKind (wrap)
variable [Fu]
def ek (w:aA):List (List Int):=w.Epochs.flatMap (·.Tags)
def lenOf (w:aA):Nat:=(ek w).length
structure fv (w:aA):Prop where
 newest:dD .i64 w.Newest
 num:∀e∈w.Epochs,dD .i64 e.Number
 tag:∀t∈ek w,t.length=16∧bW t
 len:lenOf w≤1048576
 eps:w.Epochs.length≤1048576
def part (w:aA) (i:Nat):List (List Int):=(w.Epochs.take i).flatMap (·.Tags)
theorem qh {w:aA} {i:Nat} (h:i<w.Epochs.length):part w (i+1)=part w i++w.Epochs[i].Tags:=by unfold part;rw[GU h,List.flatMap_append];simp
theorem AR (w:aA):part w w.Epochs.length=ek w:=by simp[part,ek]
theorem qX (w:aA) (i:Nat):ek w=part w i++(w.Epochs.drop i).flatMap (·.Tags):=by unfold part ek;rw[←List.flatMap_append,Hn]
theorem CE (w:aA) (i:Nat):(part w i).length≤lenOf w:=by unfold lenOf;rw[qX w i,GD];omega
theorem xY {w:aA} {i:Nat} (h:i<w.Epochs.length):w.Epochs[i].Tags.length≤lenOf w:=by have:=CE w (i+1);rw[qh h,GD] at this;omega
theorem Gf {w:aA} {i:Nat} (h:i<w.Epochs.length) {t:List Int} (ht:t∈w.Epochs[i].Tags):t∈ek w:=Jk.2 ⟨_,GV h,ht⟩
theorem jp {x:Int} (h:dD .i64 x): -9223372036854775808≤x∧x≤9223372036854775807:=h
section
variable {w:aA}
theorem wb (a:fv w):fy w=some (lenOf w:Int):=by have b:=a.len;have b:=a.eps;unfold fy;rw[KW (st:=λi=>(((part w i).length:Int),(i:Int))) (res:=λ_=>(lenOf w:Int)) (n:=w.Epochs.length)];rfl;intro i a;left;(have b:(i:Int)<(w.Epochs.length:Int):=by omega);have c:=CE w (i+1);rw[qh a,GD] at c;refine⟨?_,rfl⟩;simp only[b,IM,Gy,fB a,GP];rw[wrap64 (by omega),wrap64 (by omega),qh a,GD];simp;simp[AR,lenOf];simp[part]
def pw (w:aA):List (List Int):=(ek w).foldl j_ []
theorem AS {a:List (List Int)} (b:a.length≤1048576) {v:Int} {m:List (List Int×Int)}:
   Loop.run (S:=(Int×(List ((List Int)×Int)))) (R:=(List ((List Int)×Int))) (λ(b,c)=>
    bif decide (b<(a.length:Int)) then
     (idx a b).bind λd=>
     some (.next (wrap .i64 (b+1),cH d v c))
    else
     some (.done c)) (0,m)=some (a.foldl (λm t=>cH t v m) m):=by
 rw[KW (st:=λi=>((i:Int),(a.take i).foldl (λm t=>cH t v m) m)) (res:=λ_=>a.foldl (λm t=>cH t v m) m) (n:=a.length)]
 · intro i b
   left
   have c:(i:Int)<(a.length:Int):=by omega
   refine⟨?_,rfl⟩
   simp only[c,IM,Gy,fB b,GP]
   rw[wrap64 (by omega),GU b,Is]
   simp
 · simp
 · simp
theorem xZ (v:Int):∀(a:List (List Int)) (m:List (List Int×Int)),(a.foldl (λm t=>cH t v m) m).map (·.1)=a.foldl j_ (m.map (·.1))|[],m=>rfl|t::a,m=>by rw[HI,xZ v a,tx];rfl
def qx (w:aA):Nat→List (List Int×Int)|0=>[]|i+1=>match w.Epochs[i]? with|some e=>e.Tags.foldl (λm t=>cH t (i:Int) m) (qx w i)|none=>qx w i
theorem wc:∀i,i≤w.Epochs.length→(qx w i).map (·.1)=(part w i).foldl j_ []|0,_=>by simp[qx,part]|i+1,h=>by have a:i<w.Epochs.length:=h;(have:w.Epochs[i]? =some w.Epochs[i]:=by simp[a]);rw[qx,this,qh a,Is,←wc i (by omega),←xZ]
theorem sy (a:fv w):∃m,eX w=some m∧m.map (·.1)=pw w:=by
 have b:=a.len
 have b:=a.eps
 refine⟨qx w w.Epochs.length,?_,by rw[wc _ (GZ _),AR];rfl⟩
 unfold eX
 rw[KW (st:=λi=>((i:Int),qx w i)) (res:=λ_=>qx w w.Epochs.length) (n:=w.Epochs.length)]
 · rfl
 · intro i a
   left
   have b:(i:Int)<(w.Epochs.length:Int):=by omega
   have c:=xY a
   refine⟨?_,rfl⟩
   simp only[b,IM,Gy,fB a,GP]
   rw[AS (by omega)]
   simp only[GP]
   rw[wrap64 (by omega)]
   have b:w.Epochs[i]? =some w.Epochs[i]:=by simp[a]
   simp only[qx,b]
   simp
 · simp
 · simp[qx]
end
theorem EA {a b:List Int}:iY a b=some (yC a b):=by simp[iY,jN]
def PT:List (List Int)→Nat→Bool|a,0=>true|a,i+1=>PT a i&& !(q8 (a.getD (i+1) []) (a.getD i []))
theorem AU {ts:List (List Int)} (ht:∀t∈ts,t.length=16∧bW t) (hl:ts.length≤1048576):cV ts=some (PT ts (ts.length - 1)):=by unfold cV;rcases Jw ts.length with h0|h0;have:ts=[]:=G1 h0;subst this;rw [Km (r := (.inl () : Unit ⊕ Bool))];rfl;simp[wrap64];rw[wrap64 (by omega)];rw [KW (st := λj => (ts.length : Int) - 1 - j) (res := λj => if PT ts (ts.length - 1 - j) = true then (Sum.inl () : Unit ⊕ Bool) else .inr false) (n := ts.length - 1)];simp only[Jl];cases PT ts (ts.length - 1)<;>simp;intro j hj;(have e1:(ts.length:Int) - 1 - j=((ts.length - 1 - j:Nat):Int):=by omega);(have e2:(ts.length:Int) - 1 - ((j+1:Nat):Int)=((ts.length - 1 - (j+1):Nat):Int):=by omega);(have e3:ts.length - 1 - j=(ts.length - 1 - (j+1))+1:=by omega);generalize hk:ts.length - 1 - (j+1)=k at e2 e3;(have b:k+1<ts.length:=by omega);(have h1:(((k+1:Nat):Int)>0):=by omega);have t1:=ht ts[k+1] (GV b);have t2:=ht ts[k] (GV (by omega));have hc:=zT t1.2 t2.2 (by rw[t1.1,t2.1]);(have g1:ts.getD (k+1) []=ts[k+1]:=by simp[b]);(have g2:ts.getD k []=ts[k]:=by simp[show k<ts.length by omega]);simp only[e1,e2,e3,h1,IM,Gy,fB b,GP,PT,g1,g2];rw[wrap64 (by omega),show(((k+1:Nat):Int) - 1)=(k:Int) by omega,fB (show k<ts.length by omega)];simp only[GP,EA];by_cases a:q8 ts[k+1] ts[k]=true;right;simp[hc.2 a,a];left;(have c:q8 ts[k+1] ts[k]=false:=by simpa using a);have d:¬yC ts[k+1] ts[k]<0:=λh=>a (hc.1 h);simp[d,c];(have e1:(ts.length:Int) - 1 - ((ts.length - 1:Nat):Int)=0:=by omega);simp[e1,PT];simp
end Go.Proofs.YtlkjdchmeihhkaaGreatDoor
namespace Go.Proofs.YtlkjdchmeihhkaaGreatDoor
open Go Go.Sim
open Go.IntKind (wrap)
variable [Fu]
abbrev x9 (l:List (List Int)):Prop:=l.Pairwise λx y=>q8 x y=true
def Tags (l:List (List Int)):Prop:=∀t∈l,t.length=16∧bW t
theorem CF {α:Type} {xs:List α} {i:Nat} (h:i<xs.length):xs.drop i=xs[i]::xs.drop (i+1):=Ig h
end Go.Proofs.YtlkjdchmeihhkaaGreatDoor
namespace Go.Proofs.YtlkjdchmeihhkaaGreatDoor
open Go Go.Sim
open Go.IntKind (wrap)
variable [Fu]
def mu (p:Nat→Bool):Nat→Nat→Bool|0,_=>true|k+1,i=>p i&&mu p k (i+1)
theorem ma {p:Nat→Bool}:∀{k i:Nat},mu p k i=true↔∀j,i≤j→j<i+k→p j=true|0,i=>by simp[mu];intro j c d;omega|k+1,i=>by rw[mu,GH,ma];constructor;rintro⟨c,d⟩ j a b;by_cases h:j=i;subst h;exact c;exact d j (by omega) (by omega);intro h;exact⟨h i (by omega) (by omega),λj c d=>h j (by omega) (by omega)⟩
theorem EB {S R:Type} {step:S→Option (md S R)} (st:Nat→S) (n:Nat) (p:Nat→Bool) (good bad:R) (h:∀i,i<n→step (st i)=some (bif p i then .next (st (i+1)) else .done bad)) (a:step (st n)=some (.done good)) {s0:S} (h0:s0=st 0): Loop.run step s0=some (bif mu p n 0 then good else bad):=by have:=KW (step:=step) (st:=st) (res:=λi=>bif mu p (n - i) i then good else bad) (n:=n) ?_ ?_ h0;rw[this,Jl];intro i b;(have e:n - i=(n - (i+1))+1:=by omega);rw[h i b];(cases b:p i with|true=>left;refine⟨rfl,?_⟩;rw[e];simp[mu,b]|false=>right;rw[e];simp[mu,b]);rw[a,IZ];rfl
def QU (w:aA) (i:Nat):Int:=(w.Epochs.getD i ⟨0,[]⟩).Number
def R9 (w:aA) (i:Nat):List (List Int):=(w.Epochs.getD i ⟨0,[]⟩).Tags
def P_ (w:aA) (s:Int) (i:Nat):Bool:=!(decide (QU w i<0))&&(decide (QU w i≤w.Newest)&&decide (w.Newest - QU w i<s))&& !(decide (0<i)&&decide (QU w i≤QU w (i - 1)))&& !((R9 w i).isEmpty)&&PT (R9 w i) ((R9 w i).length - 1)
def CG (a:List (List Int)):Bool:=mu (λj=>q8 (a.getD j []) (a.getD (j+1) [])) (a.length - 1) 0
def c1 (s r:Int):Bool:= !((((decide (s<1))||(decide (s>8)))||(decide (r<0)))||(decide (r>4096)))
def c2 (w:aA) (r:Int):Bool:= !((decide (w.Newest<0))||(decide (w.Newest>4611686018427387904)))&& !(decide ((lenOf w:Int)>r))
def c3 (w:aA):Bool:=((pw w).length:Int)==(lenOf w:Int)
section
variable {w:aA}
theorem uP (a:fv w) {i:Nat} (h:i<w.Epochs.length):Tags w.Epochs[i].Tags:=λt b=>a.tag t (Gf h b)
theorem sA (hw:fv w) {s r:Int}:eY w s r=some (bif c1 s r&&c2 w r&&c3 w&&mu (P_ w s) w.Epochs.length 0 then 0 else 2):=by have hl:=hw.len;have he:=hw.eps;obtain⟨m,hm,hk⟩:=sy hw;(have e:m.length=(pw w).length:=by rw[←hk];simp);unfold eY c1;cases h1:((((decide (s<1))||(decide (s>8)))||(decide (r<0)))||(decide (r>4096))) with|true=>simp|false=>simp only[Gx,wb hw,GP,hm,e,IH,HK];unfold c2;cases h2:((decide (w.Newest<0))||(decide (w.Newest>4611686018427387904))) with|true=>simp|false=>simp only[Gx,GP,IH,HK];cases h3:decide ((lenOf w:Int)>r) with|true=>simp|false=>simp only[Gx,GP,IH,HK];unfold c3;cases h4:(((pw w).length:Int)==(lenOf w:Int)) with|false=>simp only[bne,h4,IH,Gy,J1,Gx]|true=>simp only[bne,h4,G9,Gx,HK];simp only[GL,GJ] at h1 h2 h3;rw [EB (st := λi => (i : Int)) (n := w.Epochs.length) (p := P_ w s) (good := (.inl () : Unit ⊕ Int)) (bad := .inr 2)];cases mu (P_ w s) w.Epochs.length 0<;>rfl;intro i hi;(have f:(i:Int)<(w.Epochs.length:Int):=by omega);have t1:=AU (uP hw hi) (Ic (xY hi) hl);(have g1:w.Epochs.getD i ⟨0,[]⟩=w.Epochs[i]:=by simp[hi]);have n1:=jp (hw.num _ (GV hi));(have w1:IntKind.i64.wrap ((i:Int)+1)=((i+1:Nat):Int):=by rw[wrap64 (by omega)];rfl);(have em:((w.Epochs[i].Tags.length:Int)==0)=w.Epochs[i].Tags.isEmpty:=by cases w.Epochs[i].Tags<;>simp;omega);simp only[f,IM,Gy,fB hi,GP,t1,w1,P_,QU,R9,g1,em];(have a:(bif decide ((i:Int)>0) then(idx w.Epochs (wrap .i64 ((i:Int) - 1))).bind λc=>some (decide (w.Epochs[i].Number≤c.Number)) else some false)=some (decide (0<i)&&decide (w.Epochs[i].Number≤(w.Epochs.getD (i - 1) ⟨0,[]⟩).Number)):=by by_cases h0:0<i;(have e1:(i:Int) - 1=((i - 1:Nat):Int):=by omega);(have h5:((i:Int)>0):=by omega);(have b:i - 1<w.Epochs.length:=by omega);rw[wrap64 (by omega),e1,fB b];simp[h5,h0,b];(have h5:¬((i:Int)>0):=by omega);simp[h5,h0]);rw[a];(cases d:decide (w.Epochs[i].Number<0) with|true=>simp|false=>have h:=G7 d;simp only[Gx,f8,GP];rw[wrap64 (by omega)];generalize (decide (w.Epochs[i].Number≤w.Newest)&&decide (w.Newest - w.Epochs[i].Number<s))=b1;generalize (decide (0<i)&&decide (w.Epochs[i].Number≤(w.Epochs.getD (i - 1) ⟨0,[]⟩).Number))=b2;generalize w.Epochs[i].Tags.isEmpty=b3;generalize PT w.Epochs[i].Tags (w.Epochs[i].Tags.length - 1)=b4;cases b1<;>cases b2<;>cases b3<;>cases b4<;>rfl);simp;rfl
theorem CI {a:List (List Int)}:∀{k:Nat},PT a k=true↔∀i,i<k→q8 (a.getD (i+1) []) (a.getD i [])=false|0=>by simp[PT]|k+1=>by rw[PT,GH,CI,HG];constructor;rintro⟨a,b⟩ i c;by_cases h:i=k;subst h;exact b;exact a i (by omega);intro h;exact⟨λi c=>h i (by omega),h k (by omega)⟩
theorem CJ {b:List (List Int)} (ht:Tags b) (c:b.Nodup):PT b (b.length - 1)=CG b:=by (have d:∀i,i+1<b.length→(q8 (b.getD (i+1) []) (b.getD i [])=false↔q8 (b.getD i []) (b.getD (i+1) [])=true):=by intro i f;(have a:b.getD i []=b[i]:=by simp[show i<b.length by omega]);(have e:b.getD (i+1) []=b[i+1]:=by simp[f]);rw[a,e];(have a:b[i]≠b[i+1]:=λe=>by have:=(List.getElem_inj (h₀:=show i<b.length by omega) (h₁:=f) c).1 e;omega);have c:=(ht b[i] (GV _)).1;have e:=(ht b[i+1] (GV _)).1;constructor;intro h;exact(qn (by rw[c,e]) a).resolve_right (by rw[h];simp);intro h;cases a:q8 b[i+1] b[i] with|false=>rfl|true=>have:=mc h a;rw[lu] at this;cases this);rw[Hm,CI,CG,ma];constructor;intro h j _ a;exact(d j (by omega)).1 (h j (by omega));intro h i f;exact(d i (by omega)).2 (h i (by omega) (by omega))
end
end Go.Proofs.YtlkjdchmeihhkaaGreatDoor
namespace Go.Proofs.YtlkjdchmeihhkaaGreatDoor
open Go Go.Sim
open Go.IntKind (wrap)
variable [Fu]
theorem FC {x:Int} (h1:x< -9223372036854775808) (h2: -9223372036854785808≤x):IntKind.i64.wrap x=x+18446744073709551616:=by simp[wrap,IntKind.bits,IntKind.signed];omega
theorem FD {x:Int} (h1:9223372036854775807<x) (h2:x≤9223372036854785807):IntKind.i64.wrap x=x - 18446744073709551616:=by simp[wrap,IntKind.bits,IntKind.signed];omega
theorem wd {a b d:Int} (c:dD .i64 a) (e:dD .i64 b) (hd: -2000≤d∧d≤2000):gh a b d=some (decide (a>b+d)):=by have c:=jp c;have e:=jp e;unfold gh;by_cases c:b+d< -9223372036854775808;rw[FC c (by omega)];(have c:decide (d<0)=true:=by simp;omega);(have e:decide (b+d+18446744073709551616>b)=true:=by simp;omega);(have f:decide (a>b+d)=true:=by simp;omega);simp[c,e,f];by_cases h:9223372036854775807<b+d;rw[FD h (by omega)];(have c:decide (d<0)=false:=by simp;omega);(have e:decide (d>0)=true:=by simp;omega);(have f:decide (b+d - 18446744073709551616<b)=true:=by simp;omega);(have h:decide (a>b+d)=false:=by simp;omega);rw[c,e,f,h];rfl;rw[wrap64 (by omega)];(have c:(decide (d<0)&&decide (b+d>b))=false:=by cases h:decide (d<0)<;>simp at h⊢;omega);(have e:(decide (d>0)&&decide (b+d<b))=false:=by cases h:decide (d>0)<;>simp at h⊢;omega);rw[c,e];rfl
def rG (m s:Int) (e:aE):Bool:=decide (e.Number>m - s)
def fo (w:aA) (a s:Int):aA×Int:=bif decide (s<1)||decide (s>8)||decide (a<0)||decide (a>4611686018427387904) then(⟨0,[]⟩,2) else bif decide (w.Newest≥a+s)||decide (w.Newest<a - 1024) then(⟨0,[]⟩,161) else(⟨max w.Newest a,w.Epochs.filter (rG (max w.Newest a) s)⟩,0)
section
variable {w:aA}
theorem EC (m s:Int) (i:Nat):((w.Epochs.take i).filter (rG m s)).length≤i:=Ic (H2 _ _) (by simp;omega)
theorem AV {a:List (List Int)} (h:a.length≤1048576):ij a=some a:=by simp[ij,cf (show([]:List (List Int)).length+a.length≤dC by simp[dC];omega)]
theorem ug (b:fv w) {a s:Int} (d:dD .i64 a):gY w a s=some (fo w a s):=by have c:=b.len;have c:=b.eps;have c:=jp b.newest;unfold gY fo;cases c:(decide (s<1)||decide (s>8)||decide (a<0)||decide (a>4611686018427387904)) with|true=>rfl|false=>simp only[GL,GJ] at c;obtain⟨⟨⟨c1,c2⟩,c3⟩,e⟩:=c;simp only[Gx];rw[wrap64 (x:=0 - s) (by omega),wd d b.newest (by omega),GP];(have c:dD .i64 (max w.Newest a):=by show -9223372036854775808≤max w.Newest a∧max w.Newest a≤9223372036854775807;have:=jp d;omega);cases e:decide (a>w.Newest+(0 - s)) with|false=>(have:(decide (w.Newest≥a+s)||decide (w.Newest<a - 1024))=true:=by simp only[GJ] at e;simp;omega);rw[this];rfl|true=>simp only[GM] at e;simp only[G9,Gx];rw[wd d b.newest (by omega),GP,GP];(have d:(decide (w.Newest≥a+s)||decide (w.Newest<a - 1024))=decide (a>w.Newest+1024):=by (have:decide (w.Newest≥a+s)=false:=by simp;omega);rw[this,ID];congr 1;exact propext ⟨λh=>by omega,λh=>by omega⟩);rw[d];cases d:decide (a>w.Newest+1024) with|true=>rfl|false=>simp only[Gx];rw[KW (st:=λi=>((i:Int),(w.Epochs.take i).filter (rG (max w.Newest a) s))) (res:=λ_=>(⟨max w.Newest a,w.Epochs.filter (rG (max w.Newest a) s)⟩:aA)) (n:=w.Epochs.length)];rfl;intro i f;left;(have e:(i:Int)<(w.Epochs.length:Int):=by omega);have d:=EC (w:=w) (max w.Newest a) s i;have d:=xY f;refine⟨?_,rfl⟩;simp only[e,IM,Gy,fB f,GP];rw[wd (b.num _ (GV f)) c (by omega),GP,wrap64 (by omega)];(have b:decide (w.Epochs[i].Number>max w.Newest a+(0 - s))=rG (max w.Newest a) s w.Epochs[i]:=by unfold rG;congr 1;exact propext ⟨λh=>by omega,λh=>by omega⟩);rw[b,GU f,List.filter_append];(cases b:rG (max w.Newest a) s w.Epochs[i] with|true=>rw[AV (by omega)];simp only[Gy,GP];rw[cf (by simp[dC];omega)];simp[b]|false=>simp[b]);simp;simp
end
end Go.Proofs.YtlkjdchmeihhkaaGreatDoor
namespace Go.Proofs.YtlkjdchmeihhkaaGreatDoor
open Go Go.Sim
open Go.IntKind (wrap)
variable [Fu]
section
variable {w:aA}
end
end Go.Proofs.YtlkjdchmeihhkaaGreatDoor
namespace Go.Proofs.YtlkjdchmeihhkaaGreatDoor
open Go Go.Sim
open Go.IntKind (wrap)
variable [Fu]
def gM (a:List (List Int)):List (List Int):=a.mergeSort λx y=> !q8 y x
theorem jf (a:List (List Int)):(gM a).Perm a:=List.mergeSort_perm _ _
theorem px {a:List (List Int)} (ht:Tags a) (e:a.Nodup):x9 (gM a):=by obtain⟨d,i⟩:=CD a (λx a=>(ht x a).1) (λx a=>(ht x a).2);(have j:(d.mergeSort λx y=> !ltOf A_ y x).Pairwise λa b=>(!ltOf A_ b a)=true:=by refine List.pairwise_mergeSort (λa b c c k=>?_) (λa b=>?_) d;simp only[HG,Bool.not_eq_eq_eq_not,G9] at*;exact QO.ntrans _ _ _ k c;cases c:ltOf A_ b a with|false=>simp|true=>cases k:ltOf A_ a b with|false=>simp|true=>have:=QO.trans _ _ _ c k;rw[QO.irrefl] at this;cases this);(have f:(d.mergeSort λx y=> !ltOf A_ y x).Nodup:=by (have k:d.Nodup:=by rw[←i] at e;exact(JB.1 e).imp λh e=>h (by rw[e]));exact(List.mergeSort_perm d _).nodup_iff.2 k);unfold gM x9;rw[←i,←qw,JB];refine(j.and f).imp λ{a b} ⟨c,k⟩=>?_;rw[←qf];cases d:ltOf A_ a b with|true=>rfl|false=>simp only[HG,Bool.not_eq_eq_eq_not,G9] at c;exact absurd (FT a b d c) k
theorem sB:∀{a b:List (List Int)},x9 a→x9 b→(∀t,t∈a↔t∈b)→a=b|[],[],_,_,_=>rfl|[],y::b,_,_,h=>by have:=(h y).2 (by simp);simp at this|x::a,[],_,_,h=>by have:=(h x).1 (by simp);simp at this|x::a,y::b,ha,hb,h=>by have c:=IE.1 ha;have d:=IE.1 hb;(have e:x=y:=by have h1:=(h x).1 (by simp);have h2:=(h y).2 (by simp);rcases Hc.1 h1 with h1|h1;exact h1;rcases Hc.1 h2 with h2|h2;exact h2.symm;have:=mc (d.1 x h1) (c.1 y h2);rw[lu] at this;cases this);subst e;congr 1;refine sB c.2 d.2 λt=>⟨λht=>?_,λht=>?_⟩;rcases Hc.1 ((h t).1 (by simp[ht])) with rfl|h1;have:=c.1 t ht;rw[lu] at this;cases this;exact h1;rcases Hc.1 ((h t).2 (by simp[ht])) with rfl|h1;have:=d.1 t ht;rw[lu] at this;cases this;exact h1
theorem ED {a:List (List Int)} (ht:Tags a) (b:a.length≤4000000):so a=some (gM a):=by unfold so;rw[Hv ⟨λx a=>(ht x a).2,by omega⟩];rfl
def xG (tags:List (List Int)):Nat→List (List Int×Int)|0=>[]|i+1=>match tags[i]? with|some t=>cH t (i:Int) (xG tags i)|none=>xG tags i
theorem ya {tags:List (List Int)}:∀i,i≤tags.length→(xG tags i).map (·.1)=(tags.take i).foldl j_ []|0,_=>by simp[xG]|i+1,h=>by have a:i<tags.length:=h;(have:tags[i]? =some tags[i]:=by simp[a]);rw[xG,this,GU a,Is,←ya i (by omega)];simp[tx]
theorem yb {x:List Int}:∀{ps:List (List Int×Int)},(ps.map (·.1)).Nodup→(mdel x ps).map (·.1)=(ps.map (·.1)).filter (λy=> !(x==y))|[],_=>rfl|p::ps,b=>by have a:=Ib.1 b;by_cases h:x=p.1;subst h;(have b:(ps.map (·.1)).filter (λy=> !(p.1==y))=ps.map (·.1):=Jr.2 λy c=>by have:p.1≠y:=λe=>a.1 (by show p.1∈_;rw[e];exact c);simpa using this);simp[mdel,b];(have b:(x==p.1)=false:=by simpa using h);have c:=yb (x:=x) a.2;simp[mdel,b,c]
theorem yc:∀{qs ps:List (List Int×Int)},(ps.map (·.1)).Nodup→(qs.foldl (λs q=>mdel q.1 s) ps).map (·.1)=(ps.map (·.1)).filter λy=>decide (y∉qs.map (·.1))|[],ps,_=>by simp only[List.foldl_nil];exact(Jr.2 λy _=>by simp).symm|q::qs,ps,b=>by have c:=yb (x:=q.1) b;(have a:((mdel q.1 ps).map (·.1)).Nodup:=by rw[c];exact b.filter _);rw[HI,yc a,c,List.filter_filter];refine List.filter_congr λy _=>?_;by_cases h:q.1=y;subst h;simp;have a:¬y=q.1:=λe=>h e.symm;(have b:(q.1==y)=false:=by simpa using h);simp only[G6,Hc,a,false_or,b,IH,Bool.and_true]
theorem uh {α β:Type} {f:β→α→β}:∀{l:List α} {s:β},l.foldlM (λs q=>some (f s q)) s=some (l.foldl f s)|[],s=>rfl|a::l,s=>by rw[JI,HI];exact uh
def fc (ep:Int) (ad:List (List Int)) (s:List aE×Bool) (e:aE):List aE×Bool:=bif s.2 then(s.1++[e],true) else bif decide (e.Number≥ep) then bif decide (e.Number>ep) then(s.1++[⟨ep,ad⟩,e],true) else(s.1++[{e with Tags:=ad++e.Tags}],true) else(s.1++[e],false)
def yK (es:List aE) (ep:Int) (ad:List (List Int)):List aE×Bool:=es.foldl (fc ep ad) ([],(ad.length:Int)==0)
def qL (es:List aE) (ep:Int) (ad:List (List Int)):List aE:=bif (yK es ep ad).2 then(yK es ep ad).1 else(yK es ep ad).1++[⟨ep,ad⟩]
theorem Dx {ep:Int} {ad:List (List Int)} {s:List aE×Bool} {e:aE}:(fc ep ad s e).1.length≤s.1.length+2:=by unfold fc;cases s.2<;>cases decide (e.Number≥ep)<;>cases decide (e.Number>ep)<;>simp
theorem td {ep:Int} {ad:List (List Int)}:∀{es:List aE} {s:List aE×Bool},(es.foldl (fc ep ad) s).1.length≤s.1.length+2*es.length|[],s=>by simp|e::es,s=>by have a:=Dx (ep:=ep) (ad:=ad) (s:=s) (e:=e);have a:=td (ep:=ep) (ad:=ad) (es:=es) (s:=fc ep ad s e);rw[HI,GT];omega
theorem qi {a:List (List Int)} (h:a.length≤4000000):bY a=some a:=by simp[bY,cf (show([]:List (List Int)).length+a.length≤dC by simp[dC];omega)]
def gu (e:aE):aE:={e with Tags:=gM e.Tags}
theorem Dy {es:List aE} {n:Int} (a:es.length≤4000000) (ht:∀e∈es,Tags e.Tags∧e.Tags.length≤4000000):
   Loop.run (S:=((List aE)×Int)) (R:=aA) (λ(a,b)=>
     bif decide (b<(es.length:Int)) then
      (idx a b).bind λc=>
      (so c.Tags).bind λd=>
      some (.next (List.set a (Int.toNat b) ({c with Tags:=d}:aE),wrap .i64 (b+1)))
     else
      some (.done (⟨n,a⟩:aA))) (es,0)=some ⟨n,es.map gu⟩:=by
 have a:∀i,(h:i<es.length)→((es.take i).map gu++es.drop i)[i]? =some es[i]:=λi h=>by
   rw[Jf (by simp;omega)]
   simp[Hy (Nat.le_of_lt h),h]
 rw[KW (st:=λi=>((es.take i).map gu++es.drop i,(i:Int))) (res:=λ_=>(⟨n,es.map gu⟩:aA)) (n:=es.length)]
 · intro i b
   left
   have c:(i:Int)<(es.length:Int):=by omega
   have d:((es.take i).map gu++es.drop i).length=es.length:=by simp;omega
   refine⟨?_,rfl⟩
   simp only[c,IM,Gy]
   rw[fB (show i<((es.take i).map gu++es.drop i).length by omega),GP]
   have c : ((es.take i).map gu ++ es.drop i)[i]'(by omega) = es[i] := by
    have:=a i b
    rw[Ho (by omega)] at this
    exact Option.some.inj this
   rw[c,ED (ht _ (GV b)).1 (ht _ (GV b)).2,GP,wrap64 (by omega)]
   have a:((es.take i).map gu++es.drop i).set i (gu es[i])=(es.take (i+1)).map gu++es.drop (i+1):=by
    rw[II _ _ (by simp;omega),show i - ((es.take i).map gu).length=0 by simp;omega,Ig b,IX,GU b,HT,GW]
    rfl
   have b:Int.toNat (i:Int)=i:=by simp
   rw[b]
   have:({es[i] with Tags:=gM es[i].Tags}:aE)=gu es[i]:=rfl
   rw[this,a]
   simp
 · simp
 · simp
section
variable {w:aA}
theorem FE {es:List aE} {i:Nat} (a:i<es.length) {ep:Int} {ad:List (List Int)} {s:List aE×Bool}:(es.take (i+1)).foldl (fc ep ad) s=fc ep ad ((es.take i).foldl (fc ep ad) s) es[i]:=by rw[GU a,Is];rfl
theorem EE (a:fv w) {ep:Int} {ad:List (List Int)} (b:ad.length≤1048576):
   Loop.run (S:=(Int×(List aE)×Bool)) (R:=((List aE)×Bool)) (fun(b,c,d)=>
       bif d then
        bif decide (b<(w.Epochs.length:Int)) then
         (idx w.Epochs b).bind λd=>
         ((some ()
          :Option Unit)).bind λ_=>
         (bY d.Tags).bind λe=>
         (app c [(⟨d.Number,e⟩:aE)]).bind λd=>
         some (.next (wrap .i64 (b+1),d,true))
        else
         some (.done (c,true))
       else
        bif decide (b<(w.Epochs.length:Int)) then
         (idx w.Epochs b).bind λd=>
         bif decide (d.Number≥ep) then
          bif decide (d.Number>ep) then
           (app c [(⟨ep,ad⟩:aE)]).bind λe=>
           (bY d.Tags).bind λf=>
           (app e [(⟨d.Number,f⟩:aE)]).bind λe=>
           some (.next (wrap .i64 (b+1),e,true))
          else
           (app ad d.Tags).bind λe=>
           (bY (({d with Tags:=e}:aE).Tags)).bind λf=>
           (app c [(⟨({d with Tags:=e}:aE).Number,f⟩:aE)]).bind λe=>
           some (.next (wrap .i64 (b+1),e,true))
         else
          (bY d.Tags).bind λe=>
          (app c [(⟨d.Number,e⟩:aE)]).bind λd=>
          some (.next (wrap .i64 (b+1),d,false))
        else
         some (.done (c,false))) (0,[],(ad.length:Int)==0)=some (yK w.Epochs ep ad):=by
 have b:=a.len
 have b:=a.eps
 rw[KW (st:=λi=>((i:Int),(w.Epochs.take i).foldl (fc ep ad) ([],(ad.length:Int)==0))) (res:=λ_=>yK w.Epochs ep ad) (n:=w.Epochs.length)]
 · intro i a
   left
   have b:(i:Int)<(w.Epochs.length:Int):=by omega
   have c:=xY a
   have c:=td (ep:=ep) (ad:=ad) (es:=w.Epochs.take i) (s:=([],(ad.length:Int)==0))
   simp only[Ha,G4] at c
   refine⟨?_,rfl⟩
   simp only[FE a]
   generalize (w.Epochs.take i).foldl (fc ep ad) ([],(ad.length:Int)==0)=s at c⊢
   obtain⟨acc,m⟩:=s
   simp only at c
   have c:((i:Int)+1)=((i+1:Nat):Int):=by simp
   cases m with
   |true=>
    simp only[b,IM,Gy,fB a,GP]
    rw[qi (by omega),GP,cf (by simp[dC];omega),GP,wrap64 (by omega),c]
    rfl
   |false=>
    simp only[b,IM,Gy,Gx,fB a,GP]
    unfold fc
    simp only[Gx]
    cases a:decide (w.Epochs[i].Number≥ep) with
    |false=>
     simp only[Gx]
     rw[qi (by omega),GP,cf (by simp[dC];omega),GP,wrap64 (by omega),c]
    |true=>
     simp only[Gy]
     cases a:decide (w.Epochs[i].Number>ep) with
     |true=>
      simp only[Gy]
      rw[cf (by simp[dC];omega),GP,qi (by omega),GP,cf (by simp[dC];omega),GP,wrap64 (by omega),c]
      simp
     |false=>
      simp only[Gx]
      rw[cf (by simp[dC];omega),GP,qi (by simp;omega),GP,cf (by simp[dC];omega),GP,wrap64 (by omega),c]
 · have a:¬((w.Epochs.length:Int)<(w.Epochs.length:Int)):=by omega
   simp only[Hf,yK]
   generalize w.Epochs.foldl (fc ep ad) ([],(ad.length:Int)==0)=s
   obtain⟨acc,m⟩:=s
   cases m<;>simp
 · simp
end
end Go.Proofs.YtlkjdchmeihhkaaGreatDoor
namespace Go.Proofs.YtlkjdchmeihhkaaGreatDoor
open Go Go.Sim
open Go.IntKind (wrap)
variable [Fu]
def ju (w:aA) (tags:List (List Int)):List (List Int):=(tags.foldl j_ []).filter λy=>decide (y∉ek w)
def iy (w:aA) (tags:List (List Int)):List (List Int):=gM (ju w tags)
def QQ (w:aA):Bool:=c1 8 4096&&c2 w 4096&&c3 w&&mu (P_ w 8) w.Epochs.length 0
def rM (w:aA) (ep:Int) (tags:List (List Int)) (r:Int):aA×Int:=bif decide (r<0)||decide (r>4096)|| !QQ w then(⟨0,[]⟩,2) else bif decide (ep<0)|| !(decide (ep≤w.Newest)&&decide (w.Newest - ep<8)) then(⟨0,[]⟩,161) else bif decide ((lenOf w:Int)+((iy w tags).length:Int)>r) then(⟨0,[]⟩,160) else(⟨w.Newest,(qL w.Epochs ep (iy w tags)).map gu⟩,0)
theorem sC {w:aA} {tags:List (List Int)}:(ju w tags).Nodup:=(ur List.nodup_nil).filter _
theorem qY {w:aA} {tags:List (List Int)} {t:List Int}:t∈ju w tags↔t∈tags∧t∉ek w:=by unfold ju;rw[HX,yp];simp
theorem AW {w:aA} {tags:List (List Int)} (ht:Tags tags):Tags (ju w tags):=λt h=>ht t (qY.1 h).1
theorem ui {a b:List (List Int)} (ht:Tags a) (c:a.Nodup) (d:a.Perm b):gM a=gM b:=sB (px ht c) (px (λt h=>ht t (d.mem_iff.2 h)) (d.nodup_iff.1 c)) λt=>by rw[(jf a).mem_iff,(jf b).mem_iff];exact d.mem_iff
theorem B7 {ep:Int} {a b:List (List Int)} {s s':List aE×Bool} {e:aE} (h1:s.1.map gu=s'.1.map gu) (h2:s.2=s'.2) (c:gM a=gM b) (d:gM (a++e.Tags)=gM (b++e.Tags)): (fc ep a s e).1.map gu=(fc ep b s' e).1.map gu∧(fc ep a s e).2=(fc ep b s' e).2:=by obtain⟨x,m⟩:=s;obtain⟨y,f⟩:=s';simp only at h1 h2;subst h2;unfold fc;cases m<;>cases decide (e.Number≥ep)<;>cases decide (e.Number>ep)<;>simp[h1,gu,c,d]
theorem we {ep:Int} {a b:List (List Int)} (c:gM a=gM b):∀{es:List aE} {s s':List aE×Bool},(∀e∈es,gM (a++e.Tags)=gM (b++e.Tags))→s.1.map gu=s'.1.map gu→s.2=s'.2→ (es.foldl (fc ep a) s).1.map gu=(es.foldl (fc ep b) s').1.map gu∧(es.foldl (fc ep a) s).2=(es.foldl (fc ep b) s').2|[],s,s',_,d,f=>⟨d,f⟩|e::es,s,s',h,d,f=>by obtain⟨i,j⟩:=B7 (ep:=ep) d f c (h e (by simp));exact we (s:=fc ep a s e) (s':=fc ep b s' e) c (λx c=>h x (by simp[c])) i j
theorem Dz {es:List aE} {ep:Int} {a b:List (List Int)} (c:a.length=b.length) (d:gM a=gM b) (f:∀e∈es,gM (a++e.Tags)=gM (b++e.Tags)):(qL es ep a).map gu=(qL es ep b).map gu:=by obtain⟨h,i⟩:=we (ep:=ep) d (s:=([],(a.length:Int)==0)) (s':=([],(b.length:Int)==0)) f rfl (by simp[c]);unfold qL yK;rw[i];cases (es.foldl (fc ep b) ([],(b.length:Int)==0)).2<;>simp[h,gu,d]
theorem B8 {tags:List (List Int)} (a:tags.length≤1048576):
   Loop.run (S:=(Int×(List ((List Int)×Int)))) (R:=(List ((List Int)×Int))) (λ(a,b)=>
    bif decide (a<(tags.length:Int)) then
     (idx tags a).bind λc=>
     some (.next (wrap .i64 (a+1),cH c a b))
    else
     some (.done b)) (0,[])=some (xG tags tags.length):=by
 rw[KW (st:=λi=>((i:Int),xG tags i)) (res:=λ_=>xG tags tags.length) (n:=tags.length)]
 · intro i a
   left
   have b:(i:Int)<(tags.length:Int):=by omega
   have c:tags[i]? =some tags[i]:=by simp[a]
   refine⟨?_,rfl⟩
   simp only[b,IM,Gy,fB a,GP,xG,c]
   rw[wrap64 (by omega)];simp
 · simp
 · simp[xG]
section
variable {w:aA}
theorem wg (h:c3 w=true):(ek w).Nodup:=by (have a:(pw w).length=lenOf w:=by have:=h;simp only[c3,Ih] at this;omega);exact(Ch (l:=ek w) (ks:=[]) (by simpa[pw,lenOf] using a)).1
theorem AX:∀{qs:List (List Int×Int)} {acc:List (List Int)},acc.length+qs.length≤4000000→ qs.foldlM (λa b=>(app a [b.1]).bind λc=>some c) acc=some (acc++qs.map (·.1))|[],acc,_=>by simp|q::qs,acc,h=>by simp only[GT] at h;rw[JI,cf (by simp[dC];omega)];simp only[GP,Option.bind_eq_bind];rw[AX (by simp;omega)];simp
theorem AY {es:List aE} {ep:Int} {ad:List (List Int)} (P:aE→Prop) (h1:∀e∈es,P e) (h2:P ⟨ep,ad⟩) (a:∀e∈es,P {e with Tags:=ad++e.Tags}):∀e∈qL es ep ad,P e:=by (have b:∀(l:List aE),(∀e∈l,e∈es)→∀s:List aE×Bool,(∀e∈s.1,P e)→∀e∈(l.foldl (fc ep ad) s).1,P e:=by intro l;induction l with|nil=>intro _ s c;exact c| cons x l d =>intro f s c;rw[HI];refine d (λe d=>f e (by simp[d])) _ λe d=>?_;have h:=f x (by simp);unfold fc at d;cases f:s.2<;>cases i:decide (x.Number≥ep)<;>cases j:decide (x.Number>ep)<;>simp[f,i,j] at d<;>rcases d with d|d<;>first|exact c e d|(rw[d];first|exact h1 x h|exact a x h)|(rcases d with d|d<;>rw[d]<;>first|exact h2|exact h1 _ h));intro e d;have a:=b es (λe h=>h) ([],(ad.length:Int)==0) (by simp);unfold qL yK at d;cases b:(es.foldl (fc ep ad) ([],(ad.length:Int)==0)).2<;>rw[b] at d<;>simp only[Gy,Gx] at d;rcases G3.1 d with d|d;exact a e d;simp at d;subst d;exact h2;exact a e d
theorem EF {es:List aE} {ep:Int} {ad:List (List Int)}:(qL es ep ad).length≤2*es.length+1:=by have:=td (ep:=ep) (ad:=ad) (es:=es) (s:=([],(ad.length:Int)==0));unfold qL yK;cases (es.foldl (fc ep ad) ([],(ad.length:Int)==0)).2<;>simp at this⊢<;>omega
end
end Go.Proofs.YtlkjdchmeihhkaaGreatDoor
namespace Go.Proofs.YtlkjdchmeihhkaaGreatDoor
open Go Go.Sim
open Go.IntKind (wrap)
variable [Fu]
theorem oc {α β:Type} {o:Option α} {a:α} {k:α→Option β} {r:Option β} (h:o=some a) (b:k a=r):o.bind k=r:=by rw[h];exact b
section
variable {w:aA}
theorem AZ (k:fv w) (a:(ek w).Nodup) {ep:Int} {tags ad:List (List Int)} (ht:Tags tags) (b:tags.length≤1048576) (i:ad.Perm (ju w tags)): (qL w.Epochs ep ad).map gu=(qL w.Epochs ep (iy w tags)).map gu∧ad.length=(iy w tags).length∧ad.length≤1048576∧∀e∈qL w.Epochs ep ad,Tags e.Tags∧e.Tags.length≤4000000:=by have b:=(jf (ju w tags));have d:ad.Perm (iy w tags):=i.trans b.symm;have b:=AW (w:=w) ht;have c:Tags ad:=λt h=>b t (i.mem_iff.1 h);have f:ad.Nodup:=i.nodup_iff.2 sC;(have m:(ju w tags).length≤1048576:=by have b:(ju w tags).length≤(tags.foldl j_ []).length:=H2 _ _;have b:=yq (l:=tags) (ks:=([]:List (List Int)));simp at b;omega);(have n:ad.length≤1048576:=by rw[i.length_eq];exact m);have p:=k.len;(have o:∀e∈w.Epochs,(ad++e.Tags).Nodup:=λe l=>by (have m:e.Tags.Sublist (ek w):=by obtain⟨j,p,rfl⟩:=Ii l;rw[qX w j,CF p,Hx];exact((IQ _ _).trans (Iu _ _)));refine Ik.2 ⟨f,a.sublist m,λa a b b e=>?_⟩;subst e;exact(qY.1 (i.mem_iff.1 a)).2 (m.subset b));(have i:∀e∈w.Epochs,Tags e.Tags:=λe l=>by obtain⟨j,p,rfl⟩:=Ii l;exact uP k p);(have k:∀e∈w.Epochs,e.Tags.length≤1048576:=λe l=>by obtain⟨j,p,rfl⟩:=Ii l;have:=xY p;omega);refine⟨Dz d.length_eq (ui c f d) λe l=>ui (λt h=>?_) (o e l) (d.append_right _),d.length_eq,n,?_⟩;rcases G3.1 h with h|h;exact c t h;exact i e l t h;refine AY (λe=>Tags e.Tags∧e.Tags.length≤4000000) (λe l=>⟨i e l,by have:=k e l;omega⟩) ⟨c,by simp only;omega⟩ λe l=>⟨λt h=>?_,by have:=k e l;simp;omega⟩;rcases G3.1 h with h|h;exact c t h;exact i e l t h
theorem B9 (hw:fv w) {ep r:Int} (o:dD .i64 ep) {tags:List (List Int)} (ht:Tags tags) (hl:tags.length≤1048576):iK w ep tags r=some (rM w ep tags r):=by have A:=hw.len;have B:=hw.eps;have C:=jp hw.newest;have z:=jp o;unfold iK rM;cases hr:(decide (r<0)||decide (r>4096)) with|true=>simp|false=>simp only[Gx,ID];rw[sA hw];have p:(c1 8 4096&&c2 w 4096&&c3 w&&mu (P_ w 8) w.Epochs.length 0)=QQ w:=rfl;rw[p];cases hb:QQ w with|false=>simp|true=>have d:=hb;unfold QQ at d;simp only[GH] at d;obtain⟨⟨⟨_,i⟩,t⟩,_⟩:=d;(have hN:0≤w.Newest∧w.Newest≤4611686018427387904:=by unfold c2 at i;simp at i;omega);have j:=wg t;simp only[Gy,GP,GQ,Gx,G9];cases h1:decide (ep<0) with|true=>simp|false=>simp only[GJ] at h1;(have hk:f8 ep w.Newest 8=some (decide (ep≤w.Newest)&&decide (w.Newest - ep<8)):=by unfold f8;rw[wrap64 (by omega)]);simp only[Gx,hk,GP,ID];cases h2:(decide (ep≤w.Newest)&&decide (w.Newest - ep<8)) with|false=>simp|true=>simp only[G9,Gx];rw[B8 hl];obtain⟨m,hm,u⟩:=sy hw;rw[hm];simp only[GP];refine yo λqs hq=>?_;rw[uh (f:=λs (q:List Int×Int)=>mdel q.1 s)];simp only[GP];have e:=ya (tags:=tags) tags.length (GZ _);rw[Hf] at e;(have b:(qs.foldl (λs q=>mdel q.1 s) (xG tags tags.length)).map (·.1)=ju w tags:=by rw[yc (by rw[e];exact ur List.nodup_nil),e];unfold ju;refine List.filter_congr λy _=>?_;(have:y∈qs.map (·.1)↔y∈ek w:=by rw[(hq.map _).mem_iff,u,pw,yp];simp);simp[this]);generalize qs.foldl (λs q=>mdel q.1 s) (xG tags tags.length)=fm at b;(have v:fm.length=(ju w tags).length:=by rw[←b];simp);have x:(iy w tags).length=(ju w tags).length:=(jf _).length_eq;obtain⟨_,_,D,_⟩:=AZ hw j (ep:=ep) ht hl (List.Perm.refl (ju w tags));rw[wb hw];simp only[GP];rw[wrap64 (by omega),v,x];cases h3:decide ((lenOf w:Int)+((ju w tags).length:Int)>r) with|true=>rfl|false=>simp only[Gx];refine yo λps k=>?_;(have l:(ps.map (·.1)).Perm (ju w tags):=by rw[←b];exact k.map _);obtain⟨t1,t2,t3,t4⟩:=AZ hw j (ep:=ep) ht hl l;have h:=AX (qs:=ps) (acc:=[]) (by have:=k.length_eq;simp;omega);rw[GS] at h;rw[h];simp only[GP];refine oc (EE hw t3) ?_;have c:=EF (es:=w.Epochs) (ep:=ep) (ad:=ps.map (·.1));have a:=Dy (n:=w.Newest) (by omega) t4;rw[←t1];unfold qL at a c⊢;generalize hI:yK w.Epochs ep (ps.map (·.1))=s at a c⊢;obtain⟨acc,mo⟩:=s;cases mo with|true=>simp only[Gy] at a⊢;exact oc (oc a rfl) rfl|false=>simp only[Gx] at a c⊢;exact oc (oc (cf (by simp at c;simp[dC];omega)) rfl)<|oc (oc a rfl) rfl
end
end Go.Proofs.YtlkjdchmeihhkaaGreatDoor
namespace Go.Proofs.YtlkjdchmeihhkaaGreatDoor
open Go Go.Sim
open Go.IntKind (wrap)
variable [Fu]
section
variable {w:aA}
end
end Go.Proofs.YtlkjdchmeihhkaaGreatDoor
namespace Go.Proofs.YtlkjdchmeihhkaaGreatDoor
open Go Go.Sim
open Go.IntKind (wrap)
variable [Fu]
section
variable {H A:List (List Int)}
end
end Go.Proofs.YtlkjdchmeihhkaaGreatDoor
namespace Go.Proofs.YtlkjdchmeihhkaaGreatDoor
open Go Go.Sim
open Go.IntKind (wrap)
variable [Fu]
theorem Ca {a:List (List Int)} (h:CG a=true):x9 a:=by have b:=ma.1 h;(have c:∀d i,(e:i+d+1<a.length)→q8 (a.getD i []) (a.getD (i+d+1) [])=true:=by intro d;induction d with|zero=>intro i e;exact b i (by omega) (by omega)|succ d a=>intro i e;exact mc (a i (by omega)) (by have:=b (i+d+1) (by omega) (by omega);rwa [show i+(d+1)+1=i+d+1+1 by omega]));refine IL.2 λi j e a b=>?_;have:=c (j - i - 1) i (by omega);rw[show i+(j - i - 1)+1=j by omega] at this;simpa[e,a] using this
section
variable {w:aA}
end
end Go.Proofs.YtlkjdchmeihhkaaGreatDoor
namespace Go.Proofs.YtlkjdchmeihhkaaGreatDoor
open Go Go.Sim
open Go.IntKind (wrap)
variable [Fu]
theorem wh:fv ⟨0,[]⟩:=⟨⟨by decide,by decide⟩,by simp,by simp[ek],by simp[lenOf,ek],by simp⟩
theorem A0 {xs ys:List aE} (h:List.Sublist xs ys):List.Sublist (xs.flatMap (·.Tags)) (ys.flatMap (·.Tags)):=by induction h with|slnil=>exact List.Sublist.refl _|cons a _ ih=>rw[Hx];exact ih.trans (Iu _ _)|cons_cons a _ ih=>rw[Hx,Hx];exact(List.Sublist.refl _).append ih
theorem qZ {w:aA} (b:fv w) {a s:Int} (c:dD .i64 a):fv (fo w a s).1:=by unfold fo;cases (decide (s<1)||decide (s>8)||decide (a<0)||decide (a>4611686018427387904)) with|true=>exact wh|false=>cases (decide (w.Newest≥a+s)||decide (w.Newest<a - 1024)) with|true=>exact wh|false=>have d:=jp b.newest;have d:=jp c;have c:List.Sublist (w.Epochs.filter (rG (max w.Newest a) s)) w.Epochs:=Js;have d:List.Sublist ((w.Epochs.filter (rG (max w.Newest a) s)).flatMap (·.Tags)) (ek w):=A0 c;exact⟨show -9223372036854775808≤max w.Newest a∧max w.Newest a≤9223372036854775807 by omega,λe f=>b.num e (c.subset f),λt h=>b.tag t (d.subset h),Ic d.length_le b.len,Ic c.length_le b.eps⟩
end Go.Proofs.YtlkjdchmeihhkaaGreatDoor
namespace Go.Proofs.YtlkjdchmeihhkaaGreatDoor
open Go Go.Sim
open Go.IntKind (wrap)
variable [Fu]
structure VW (w:aA) (s r:Int):Prop where
 new:0≤w.Newest∧w.Newest≤4611686018427387904
 len:(lenOf w:Int)≤r
 nodup:(ek w).Nodup
 ep:∀e∈w.Epochs,0≤e.Number∧e.Number≤w.Newest∧w.Newest - e.Number<s∧e.Tags≠[]∧x9 e.Tags
 inc:w.Epochs.Pairwise λa b=>a.Number<b.Number
theorem DA {l ks:List (List Int)} (h:l.Nodup) (h2:∀x∈l,x∉ks):l.foldl j_ ks=ks++l:=by induction l generalizing ks with|nil=>simp|cons x l a=>obtain⟨b,c⟩:=Ib.1 h;have d:=h2 x (by simp);(have:j_ ks x=ks++[x]:=by simp[j_,d]);rw[HI,this,a c λy a c=>by rcases G3.1 c with c|c;exact h2 y (by simp[a]) c;simp at c;subst c;exact b a];simp
theorem EG {w:aA}:c3 w=true↔(ek w).Nodup:=by constructor;exact wg;intro h;have:=DA (ks:=[]) h (by simp);simp[c3,pw,lenOf,this]
theorem mw {α:Type} {xs:List α} {i:Nat} (h:i<xs.length) (d:α):xs.getD i d=xs[i]:=by simp[h]
theorem EH {a:List (List Int)} (h:x9 a):CG a=true:=by refine ma.2 λj _ b=>?_;rw[mw (show j<a.length by omega),mw (show j+1<a.length by omega)];exact IL.1 h j (j+1) (by omega) (by omega) (by omega)
section
variable {w:aA}
theorem py {e:aE} (a:e∈w.Epochs):e.Tags.Sublist (ek w):=by obtain⟨i,b,rfl⟩:=Ii a;rw[qX w i,CF b,Hx];exact((IQ _ _).trans (Iu _ _))
theorem yd (a:fv w) {s r:Int}:(c1 s r&&c2 w r&&c3 w&&mu (P_ w s) w.Epochs.length 0)=true↔c1 s r=true∧VW w s r:=by simp only[GH];constructor;rintro⟨⟨⟨b,c⟩,d⟩,e⟩;have f:=EG.1 d;have d:=λi (k:i<w.Epochs.length)=>ma.1 e i (by omega) (by omega);simp only[c2,GH,HG,GL,GJ] at c;refine⟨b,⟨by omega,by omega,f,λe e=>?_,?_⟩⟩;obtain⟨i,k,rfl⟩:=Ii e;have h:=d i k;have g:w.Epochs.getD i ⟨0,[]⟩=w.Epochs[i]:=mw k _;simp only[P_,QU,R9,g,GH,HG,GJ,GM,List.isEmpty_eq_false_iff] at h;obtain⟨⟨⟨⟨e,l⟩,m⟩,n⟩,o⟩:=h;rw[CJ (uP a k) (f.sublist (py (GV k)))] at o;exact⟨by omega,l.1,l.2,n,Ca o⟩;(have f:∀i,(h:i+1<w.Epochs.length)→w.Epochs[i].Number<w.Epochs[i+1].Number:=fun i h=>by have j:=d (i+1) h;have g:w.Epochs.getD (i+1) ⟨0,[]⟩=w.Epochs[i+1]:=mw h _;have p:w.Epochs.getD i ⟨0,[]⟩=w.Epochs[i]:=mw (by omega) _;simp only[P_,QU,R9,IY,g,p,GH,HG,Bool.and_eq_false_iff,GJ,GM] at j;have:=j.1.1.2;omega);(have q:∀d i,(h:i+d+1<w.Epochs.length)→w.Epochs[i].Number<w.Epochs[i+d+1].Number:=by intro d;induction d with|zero=>intro i h;exact f i h|succ d j=>intro i h;have b:=j i (by omega);have c:=f (i+d+1) (by omega);simp only[show i+(d+1)+1=i+d+1+1 by omega];omega);refine IL.2 λi j k c c=>?_;have:=q (j - i - 1) i (by omega);simp only[show i+(j - i - 1)+1=j by omega] at this;exact this;rintro⟨b,v⟩;have c:=v.new;have c:=v.len;refine⟨⟨⟨b,?_⟩,EG.2 v.nodup⟩,ma.2 λi _ k=>?_⟩;simp only[c2,GH,HG,GL,GJ];omega;(have k:i<w.Epochs.length:=by omega);have g:w.Epochs.getD i ⟨0,[]⟩=w.Epochs[i]:=mw k _;obtain⟨e,l,m,n,o⟩:=v.ep _ (GV k);simp only[P_,QU,R9,g,GH,HG,GJ,GM,List.isEmpty_eq_false_iff];refine⟨⟨⟨⟨by omega,l,m⟩,?_⟩,n⟩,?_⟩;(cases i with|zero=>simp|succ i=>have p:w.Epochs.getD i ⟨0,[]⟩=w.Epochs[i]:=mw (by omega) _;have:=IL.1 v.inc i (i+1) (by omega) k (by omega);simp only[IY,p,Bool.and_eq_false_iff,GJ];omega);rw[CJ (uP a k) (v.nodup.sublist (py (GV k)))];exact EH o
end
theorem VW.good {w:aA} {s r:Int} (h:VW w s r) (a:r≤4096) (ht:Tags (ek w)):fv w:=by have c:=h.new;have d:=h.len;refine⟨show -9223372036854775808≤w.Newest∧w.Newest≤9223372036854775807 by omega,λe f=>?_,ht,by omega,?_⟩;obtain⟨a,b,_⟩:=h.ep e f;show -9223372036854775808≤e.Number∧e.Number≤9223372036854775807;omega;(have:∀a:List aE,(∀e∈a,e.Tags≠[])→a.length≤(a.flatMap (·.Tags)).length:=by intro a;induction a with|nil=>simp|cons e a a=>intro h;have c:=a λx a=>h x (by simp[a]);have d:0<e.Tags.length:=List.length_pos_iff.2 (h e (by simp));simp only[Hx,GD,GT];omega);have:=this w.Epochs λe f=>(h.ep e f).2.2.2.1;have a:lenOf w=(w.Epochs.flatMap (·.Tags)).length:=rfl;omega
theorem A3 {w:aA} {a s s' r:Int} (h:VW w s r) (b:0≤a∧a≤4611686018427387904):VW ⟨max w.Newest a,w.Epochs.filter (rG (max w.Newest a) s')⟩ s' r:=by have b:=h.new;have b:List.Sublist (w.Epochs.filter (rG (max w.Newest a) s')) w.Epochs:=Js;have c:List.Sublist ((w.Epochs.filter (rG (max w.Newest a) s')).flatMap (·.Tags)) (ek w):=A0 b;refine⟨by simp only;omega,?_,h.nodup.sublist c,λe d=>?_,h.inc.sublist b⟩;have:=h.len;have b:=c.length_le;have c:lenOf w=(ek w).length:=rfl;have f:lenOf ⟨max w.Newest a,w.Epochs.filter (rG (max w.Newest a) s')⟩=((w.Epochs.filter (rG (max w.Newest a) s')).flatMap (·.Tags)).length:=rfl;omega;obtain⟨b,c⟩:=HX.1 d;obtain⟨d,f,f,f⟩:=h.ep e b;simp only[rG,GM] at c;exact⟨d,by simp only;omega,by simp only;omega,f⟩
theorem EI {w:aA} {a s:Int} (h:(fo w a s).2=0):(1≤s∧s≤8∧0≤a∧a≤4611686018427387904)∧(w.Newest<a+s∧a - 1024≤w.Newest)∧fo w a s=(⟨max w.Newest a,w.Epochs.filter (rG (max w.Newest a) s)⟩,0):=by unfold fo at h⊢;cases b:(decide (s<1)||decide (s>8)||decide (a<0)||decide (a>4611686018427387904)) with|true=>rw[b] at h;simp at h|false=>rw[b] at h;cases c:(decide (w.Newest≥a+s)||decide (w.Newest<a - 1024)) with|true=>rw[c] at h;simp at h|false=>simp only[GL,GJ] at b c;exact⟨by omega,by omega,rfl⟩
def OV (ep:Int) (ad:List (List Int)):List aE→List aE|[]=>[⟨ep,ad⟩]|e::a=>if e.Number<ep then e::OV ep ad a else if e.Number>ep then⟨ep,ad⟩::e::a else{e with Tags:=ad++e.Tags}::a
theorem qj {ep:Int} {ad:List (List Int)}:∀{es acc:List aE},es.foldl (fc ep ad) (acc,true)=(acc++es,true)|[],acc=>by simp|e::es,acc=>by rw[HI];simp[fc,qj (es:=es)]
theorem wi {ep:Int} {ad:List (List Int)}:∀{es acc:List aE},(bif (es.foldl (fc ep ad) (acc,false)).2 then(es.foldl (fc ep ad) (acc,false)).1 else(es.foldl (fc ep ad) (acc,false)).1++[⟨ep,ad⟩])=acc++OV ep ad es|[],acc=>by simp[OV]|e::es,acc=>by rw[HI];by_cases a:e.Number<ep;(have b:decide (e.Number≥ep)=false:=by simp;omega);(have:fc ep ad (acc,false) e=(acc++[e],false):=by simp[fc,b]);rw[this,wi (es:=es),OV,Hv a];simp;(have b:decide (e.Number≥ep)=true:=by simp;omega);by_cases c:e.Number>ep;(have d:decide (e.Number>ep)=true:=by simpa using c);(have:fc ep ad (acc,false) e=(acc++[⟨ep,ad⟩,e],true):=by simp[fc,b,d]);rw[this,qj,OV,Hu a,Hv c];simp;(have d:decide (e.Number>ep)=false:=by simpa using c);(have:fc ep ad (acc,false) e=(acc++[{e with Tags:=ad++e.Tags}],true):=by simp[fc,b,d]);rw[this,qj,OV,Hu a,Hu c];simp
theorem zu {es:List aE} {ep:Int} {ad:List (List Int)}:qL es ep ad=if ad=[] then es else OV ep ad es:=by unfold qL yK;by_cases h:ad=[];subst h;simp[qj];(have:((ad.length:Int)==0)=false:=by have:=List.length_pos_iff.2 h;simp;omega);rw[this,wi,Hu h];simp
theorem zw {ep:Int} {ad:List (List Int)}:∀{es:List aE} {e:aE},e∈OV ep ad es→e∈es∨e=⟨ep,ad⟩∨∃a∈es,a.Number=ep∧e={a with Tags:=ad++a.Tags}|[],e,h=>by simp[OV] at h;exact .inr (.inl h)|x::es,e,h=>by rw[OV] at h;split at h;rcases Hc.1 h with rfl|h;exact .inl (by simp);rcases zw h with h|h|⟨a,h,k⟩;exact .inl (by simp[h]);exact .inr (.inl h);exact .inr (.inr ⟨a,by simp[h],k⟩);split at h;rcases Hc.1 h with rfl|h;exact .inr (.inl rfl);exact .inl h;rcases Hc.1 h with rfl|h;exact .inr (.inr ⟨x,by simp,by omega,rfl⟩);exact .inl (by simp[h])
theorem EJ {ep:Int} {ad:List (List Int)} {es:List aE} {e:aE} (h:e∈OV ep ad es):e.Number=ep∨∃x∈es,e.Number=x.Number:=by rcases zw h with h|rfl|⟨a,h,k,rfl⟩;exact .inr ⟨e,h,rfl⟩;exact .inl rfl;exact .inl k
theorem CK {ep:Int} {ad:List (List Int)}:∀{es:List aE},es.Pairwise (λa b=>a.Number<b.Number)→(OV ep ad es).Pairwise (λa b=>a.Number<b.Number)|[],_=>by simp[OV]|x::es,h=>by obtain⟨d,f⟩:=IE.1 h;rw[OV];split;rename_i c;refine IE.2 ⟨λy i=>?_,CK f⟩;rcases EJ i with e|⟨z,j,e⟩;omega;have:=d z j;omega;split;rename_i c c;refine IE.2 ⟨λy i=>?_,h⟩;rcases Hc.1 i with rfl|i;exact c;have:=d y i;simp only;omega;exact IE.2 ⟨λy i=>d y i,f⟩
theorem A4 {ep:Int} {ad:List (List Int)}:∀{es:List aE},((OV ep ad es).flatMap (·.Tags)).Perm (ad++es.flatMap (·.Tags))|[]=>by simp[OV]|x::es=>by rw[OV];split;rw[Hx,Hx];refine(JF _ (A4 (es:=es))).trans ?_;rw[←GW,←GW];exact List.Perm.append_right _ List.perm_append_comm;split;simp;simp
theorem wj:∀{es:List aE},((es.map gu).flatMap (·.Tags)).Perm (es.flatMap (·.Tags))|[]=>by simp|e::es=>by rw[G6,Hx,Hx];exact(jf _).append wj
section
variable {w:aA}
theorem CL {ep r:Int} {tags:List (List Int)} (h:(rM w ep tags r).2=0):0≤r∧r≤4096∧QQ w=true∧(0≤ep∧ep≤w.Newest∧w.Newest - ep<8)∧(lenOf w:Int)+((iy w tags).length:Int)≤r∧rM w ep tags r=(⟨w.Newest,(qL w.Epochs ep (iy w tags)).map gu⟩,0):=by unfold rM at h⊢;cases a:(decide (r<0)||decide (r>4096)|| !QQ w) with|true=>rw[a] at h;simp at h|false=>rw[a] at h;cases b:(decide (ep<0)|| !(decide (ep≤w.Newest)&&decide (w.Newest - ep<8))) with|true=>rw[b] at h;simp at h|false=>rw[b] at h;cases c:decide ((lenOf w:Int)+((iy w tags).length:Int)>r) with|true=>rw[c] at h;simp at h|false=>simp only[GL,GJ,Bool.not_eq_false',GH,GM] at a b c;exact⟨by omega,by omega,a.2,by omega,by omega,rfl⟩
theorem EK {ep r:Int} {tags:List (List Int)} (h:(rM w ep tags r).2≠0):(rM w ep tags r).1=⟨0,[]⟩:=by unfold rM at h⊢;cases a:(decide (r<0)||decide (r>4096)|| !QQ w) with|true=>rfl|false=>rw[a] at h;cases a:(decide (ep<0)|| !(decide (ep≤w.Newest)&&decide (w.Newest - ep<8))) with|true=>rfl|false=>rw[a] at h;cases a:decide ((lenOf w:Int)+((iy w tags).length:Int)>r) with|true=>rfl|false=>rw[a] at h;simp at h
def put (w:aA) (ep:Int) (tags:List (List Int)):aA:=⟨w.Newest,(qL w.Epochs ep (iy w tags)).map gu⟩
theorem q9 {tags:List (List Int)} {t:List Int}:t∈iy w tags↔t∈tags∧t∉ek w:=by unfold iy;rw[(jf _).mem_iff,qY]
theorem sD {tags:List (List Int)}:(iy w tags).Nodup:=(jf _).nodup_iff.2 sC
theorem wk {ep:Int} {tags:List (List Int)}:(ek (put w ep tags)).Perm (iy w tags++ek w):=by refine(wj (es:=qL w.Epochs ep (iy w tags))).trans ?_;rw[zu];split;rename_i h;rw[h];exact List.Perm.refl _;exact A4
theorem EL {ep:Int} {tags:List (List Int)} {t:List Int}:t∈ek (put w ep tags)↔t∈ek w∨t∈tags:=by rw[wk.mem_iff,G3,q9];by_cases h:t∈ek w<;>simp[h]
theorem FF {ep:Int} {tags:List (List Int)}:lenOf (put w ep tags)=(iy w tags).length+lenOf w:=by have:=(wk (w:=w) (ep:=ep) (tags:=tags)).length_eq;rwa [GD] at this
theorem ye {ep s s' r r':Int} {tags:List (List Int)} (h:VW w s r) (ht:Tags tags) (k:Tags (ek w)) (p:0≤ep∧ep≤w.Newest∧w.Newest - ep<s') (a:s≤s') (a:(lenOf w:Int)+((iy w tags).length:Int)≤r'):VW (put w ep tags) s' r':=by have l:(iy w tags++ek w).Nodup:=Ik.2 ⟨sD,h.nodup,λa c b d e=>by subst e;exact(q9.1 c).2 d⟩;have m:Tags (iy w tags):=λt h=>ht t (q9.1 h).1;refine⟨h.new,by rw[FF];omega,wk.nodup_iff.2 l,λe c=>?_,?_⟩;obtain⟨x,q,rfl⟩:=Hk.1 c;(have u:0≤x.Number∧x.Number≤w.Newest∧w.Newest - x.Number<s'∧x.Tags≠[]∧Tags x.Tags∧x.Tags.Nodup:=by (have i:∀y∈w.Epochs,0≤y.Number∧y.Number≤w.Newest∧w.Newest - y.Number<s'∧y.Tags≠[]∧Tags y.Tags∧y.Tags.Nodup:=λy v=>by obtain⟨a,b,c,d,f⟩:=h.ep y v;exact⟨a,b,by omega,d,λt j=>k t ((py v).subset j),h.nodup.sublist (py v)⟩);rw[zu] at q;split at q;exact i x q;rename_i n;rcases zw q with q|rfl|⟨y,v,o,rfl⟩;exact i x q;exact⟨p.1,p.2.1,p.2.2,n,m,sD⟩;obtain⟨a,b,c,d,f,g⟩:=i y v;refine⟨a,b,c,by simp[n],λt j=>?_,?_⟩;rcases G3.1 j with k|k;exact m t k;exact f t k;exact l.sublist ((List.Sublist.refl _).append (py v)));obtain⟨c,d,f,i,j,k⟩:=u;refine⟨c,d,f,λe=>i ?_,px j k⟩;have:=(jf x.Tags).length_eq;have e:gM x.Tags=[]:=e;rw[e] at this;exact G1 this.symm;refine JB.2 ?_;show List.Pairwise (λa b:aE=>a.Number<b.Number) _;rw[zu];split;exact h.inc;exact CK h.inc
end
end Go.Proofs.YtlkjdchmeihhkaaGreatDoor
namespace Go.Proofs.YtlkjdchmeihhkaaGreatDoor
open Go Go.Sim
open Go.IntKind (wrap)
variable [Fu]
theorem uQ {α:Type} (xs:List α):(xs.map (dL (α:=α))).sum=xs.length:=by induction xs with|nil=>rfl|cons x xs a=>simp[dL] at a⊢;omega
theorem EM {w:aA} (a:nP w) (c:jh w≤1048576):fv w:=by obtain⟨b,⟨d,e⟩,_⟩:=a;(have a:(ek w).length+w.Epochs.length≤(w.Epochs.map iB).sum:=by (have:∀a:List aE,(∀e∈a,mV e)→(a.flatMap (·.Tags)).length+a.length≤(a.map iB).sum:=by intro a f;induction a with|nil=>simp|cons e a a=>have h:=a λx a=>f x (by simp[a]);obtain⟨_,⟨h,_⟩,_⟩:=f e (by simp);(have f:e.Tags.length≤(e.Tags.map (x2 dL)).sum:=by (have:∀f:List (List Int),(∀t∈f,PM 16 (dD .u8) t)→f.length≤(f.map (x2 dL)).sum:=by intro f i;induction f with|nil=>simp|cons t f f=>have j:=f λx a=>i x (by simp[a]);have a:=(i t (by simp)).2;have:x2 dL t=t.length:=uQ t;simp only[G6,Jt,GT,this];omega);exact this _ h);have a:iB e=dL e.Number+(zM (x2 dL) e.Tags+0):=rfl;have f:zM (x2 dL) e.Tags=(e.Tags.map (x2 dL)).sum+1:=rfl;simp only[Hx,GD,G6,Jt,GT,a,f];omega);exact this _ d);have a:jh w=dL w.Newest+(((w.Epochs.map iB).sum+1)+0):=rfl;refine⟨b,λe a=>(d e a).1,λt b=>?_,by unfold lenOf;omega,by omega⟩;obtain⟨e,a,f⟩:=Jk.1 b;obtain⟨_,⟨h,_⟩,_⟩:=d e a;exact⟨(h t f).2,λb c=>(h t f).1 b c⟩
end Go.Proofs.YtlkjdchmeihhkaaGreatDoor
namespace Go.Proofs.YtlkjdchmeihhkaaGreatDoor
open Go Go.Sim
open Go.IntKind (wrap)
variable [Fu]
section
variable {w:aA}
theorem FG (a:fv w):QQ w=true↔VW w 8 4096:=by have:=yd a (s:=8) (r:=4096);unfold QQ;rw[this];exact⟨λh=>h.2,λh=>⟨by decide,h⟩⟩
theorem EN (b:fv w) {ep r:Int} {tags:List (List Int)} (ht:Tags tags) (h:(rM w ep tags r).2=0):VW (put w ep tags) 8 r∧fv (put w ep tags)∧(rM w ep tags r).1=put w ep tags:=by obtain⟨a,a,c,d,e,f⟩:=CL h;have v:=ye ((FG b).1 c) ht b.tag d (J2 _) e;refine⟨v,v.good a λt a=>?_,by rw[f];rfl⟩;rcases EL.1 a with k|k;exact b.tag t k;exact ht t k
theorem DB (a:fv w) {ep r:Int} {tags:List (List Int)} (ht:Tags tags):fv (rM w ep tags r).1:=by by_cases h:(rM w ep tags r).2=0;obtain⟨_,b,c⟩:=EN a ht h;rw[c];exact b;rw[EK h];exact wh
end
end Go.Proofs.YtlkjdchmeihhkaaGreatDoor
