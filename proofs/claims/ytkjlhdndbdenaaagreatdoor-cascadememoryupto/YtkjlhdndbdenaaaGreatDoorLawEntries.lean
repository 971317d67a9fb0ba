import Derived.Test.YtkjlhdndbdenaaaGreatDoorLawFeedK
import Derived.Test.YtkjlhdndbdenaaaGreatDoorLawCellO
set_option autoImplicit true
set_option relaxedAutoImplicit true
set_option linter.all false
set_option maxRecDepth 20000
set_option maxHeartbeats 1000000
namespace Go.Proofs.YtkjlhdndbdenaaaGreatDoor
open Go Go.Sim
variable [Fu]
theorem uv {α β:Type} {o:Option α} {f g:α→Option β} (h:∀x,o=some x→f x=g x):o.bind f=o.bind g:=by cases o with|none=>rfl|some x=>exact h x rfl
theorem q5 {α:Type} {xs:List α} {i:Int} {x:α} (h:idx xs i=some x):x∈xs:=by obtain⟨_,_,a⟩:=eO h;exact ww a
theorem vt {raw:List Int} (a:raw.length<2^30) (b:aT raw):cj raw=bo raw:=by obtain⟨r,c,d,_,_⟩:=fZ a b;(have e:nM raw=r:=by rw[jb a b] at c;exact Option.some.inj c);unfold cj bo;rw[nO a b,jb a b,e];simp only[aC];cases a:r.2.2 != 0 with|true=>rfl|false=>obtain⟨_,_,b⟩:=d (by simpa using a);(have a:∀(i:Int) (x:List Int),idx r.1.Cells i=some x→cz x=eP x:=λi x c=>by have:=b x (q5 c);rw[kv this.2,sW this.2]);(have b:∀(i:Int) {β:Type} (g:List Int×Bool×Int→Option β),((idx r.1.Cells i).bind λx=>(cz x).bind g)=((idx r.1.Cells i).bind λx=>(eP x).bind g):=λi β g=>uv λx c=>by rw[a i x c]);simp only[b]<;>rfl
noncomputable def jv (cells : List (List Int)) : ((List (List Int)) × Int) → Option (j_ ((List (List Int)) × Int) ((List (List Int)) ⊕ ((List (List Int)) × Int))) := λ(b, c) =>bif decide (c<(cells.length:Int)) then (((idx cells c).bind λd=>(eP d).bind λa=>bif a.2.2 != 0 then some (.inl ([],a.2.2)) else bif a.2.1 then (app b [a.1]).bind λe=>some (.inr e) else some (.inr b) : Option (((List (List Int)) × Int) ⊕ (List (List Int))))).bind λf => match f with| .inl z=>some (.done (.inr z))| .inr h=>some (.next (h,IntKind.wrap .i64 (c+1))) else some (.done (.inl b))
theorem vu {raw:List Int} (a:raw.length<2^30) (b:aT raw):∃r,bo raw=some r∧r.1.length≤256:=by obtain⟨r,c,d,_,_⟩:=fZ a b;unfold bo;rw[c,aC];cases a:r.2.2 != 0 with|true=>exact⟨_,rfl,by simp⟩|false=>obtain⟨_,b,c⟩:=d (by simpa using a);rw[wc];cases r.1.Header.Left != 0 with|true=>exact⟨_,rfl,by simp⟩|false=>rw[wc];generalize r.1.Cells=a at*;obtain ⟨q, d, e⟩ := gd (S := ((List (List Int)) × Int)) (R := ((List (List Int)) ⊕ ((List (List Int)) × Int))) (step := jv a) (P := λs => ∃ i : Nat, s.2 = i ∧ i ≤ a.length ∧ s.1.length ≤ i) (Q := λr => match r with | .inl l => l.length ≤ 256 | .inr p => p.1.length ≤ 256) (λs => ((a.length : Int) - s.2).toNat) (λs b => by obtain⟨wK,z⟩:=s;obtain⟨i,f,h,h⟩:=b;simp only at f h;subst f;unfold jv;simp only;by_cases b:i<a.length;have d:decide ((i:Int)<(a.length:Int))=true:=wg (by omega);rw[d,wd,el b];simp only[aC];rw[kv (c _ (xQ b)).2];simp only[aC];(cases (jA a[i]).2.2 != 0 with|true=>exact .inl ⟨_,rfl,by simp⟩|false=>simp only[wc];(have b:IntKind.wrap .i64 ((i:Int)+1)=((i+1:Nat):Int):=by rw[bA (by omega)];omega);cases (jA a[i]).2.1 with|true=>rw[wd,bb (by rw[fm];simp;omega)];simp only[aC,b];exact .inr ⟨_,rfl,⟨i+1,rfl,by omega,by simp;omega⟩,by simp only;omega⟩|false=>simp only[wc,aC,b];exact .inr ⟨_,rfl,⟨i+1,rfl,by omega,by show wK.length≤i+1;omega⟩,by simp only;omega⟩);have d:decide ((i:Int)<(a.length:Int))=false:=wk (by omega);rw[d,wc];exact .inl ⟨_,rfl,by show wK.length≤256;omega⟩) (s:=([],0)) ⟨0,rfl,by omega,by simp⟩;show∃r,(((Loop.run (jv a) ([],0)).bind _).bind _)=some r∧_;rw[d];cases q with|inl a=>exact⟨_,rfl,e⟩|inr a=>exact⟨_,rfl,e⟩
theorem kR (l:List (List Int)) (h:l.length<2^30):ci l l=some true:=by unfold ci;rw[xi,wc];rw[aQ (s0:=0) (r:=Sum.inl ()) (λi=>(i:Int)) 0 l.length (xf _) ?_ ?_ rfl];rfl;intro i _ a;have b:decide ((i:Int)<(l.length:Int))=true:=wg (by omega);simp only[b,wd];rw[el a,bA (by omega)];simp only[aC,xi,wc];rfl;have b:decide ((l.length:Int)<(l.length:Int))=false:=wk (by omega);simp only[b,wc]
end Go.Proofs.YtkjlhdndbdenaaaGreatDoor
set_option maxRecDepth 20000
set_option maxHeartbeats 1000000
namespace Go.Proofs.YtkjlhdndbdenaaaGreatDoor
open Go Go.Sim
variable [Fu]
theorem sX {x:List Int} (h:x8 (pH .u8) x):aT x:=λb a=>h.1 b a
theorem oP {b:aP} (a:∀c∈b.Cells,aT c):aT (gy b).1:=by unfold gy;cases !lK b.Header with|true=>exact λx d=>(by cases d)|false=>cases decide ((b.Cells.length:Int)>256) with|true=>exact λx d=>(by cases d)|false=>cases b.Cells.all λc=>c.length==320 with|false=>exact λx d=>(by cases d)|true=>exact fX (fX (pc _ _) (pe a)) (fY _ _)
theorem rP {b:aP}:(gy b).1.length<2^30:=by unfold gy;cases !lK b.Header with|true=>simp|false=>cases a:decide ((b.Cells.length:Int)>256) with|true=>simp|false=>have a:=wt a;cases a:b.Cells.all λc=>c.length==320 with|false=>simp|true=>have:=qp _ a;have a:=mT b.Header b.Cells.length;show(j9 b.Header b.Cells.length++ip b.Cells++gG (fF (C9 b.Header b.Cells)) 4).length<2^30;rw[wi,wi,gj,this,a];omega
end Go.Proofs.YtkjlhdndbdenaaaGreatDoor
