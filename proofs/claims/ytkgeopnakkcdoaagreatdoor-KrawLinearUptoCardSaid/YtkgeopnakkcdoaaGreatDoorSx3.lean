import Derived.Test.YtkgeopnakkcdoaaGreatDoorSx2
import Derived.Maps.AppendAt
set_option linter.unusedVariables false
set_option linter.unusedSimpArgs false
namespace Go.SX
variable {a:Act}{p x:Operand}{t:TypeId}
variable {P:Program} {tt:List (Nat×TyI)} {W0:PW} {M:Nat->Prop}
section
variable {st:SS} {W:PW} {o:Oper} {K:SV->SS->PW->Prop}
theorem Bb1 {cs:Array Value}{e:TypeId}{i:TyI}(d:Af4 P t i)(w:World){g pos:Nat}(f:w.heap[g]?=some (.cells cs e (0,0))){v:Value}(b:(Ac7 v).length=i.size)(h1:Ed1 (Ac7 v)=true)(hle:pos+i.size<=cs.size):(Instr.storeAt t (.pointer (some ⟨g,pos,none⟩)) v).run P w = .ok () (w.setRow g (Aj6 cs.toList pos (Ac7 v)).toArray):=by
 have c:=run_storeCells_at P g pos e (Ac7 v) 0 cs w f (by rw[b];exact hle) (Bd5 h1);simp only[Nat.add_zero] at c;rw[<-Al5 (Ac7 v) cs.toList pos (by rw[b];simpa using hle)] at c;have h:v.cells.size=i.size:=by rw[Bi2,b]
 simp only[Instr.storeAt,Instr.sureAddr,storeVar,Sem.run_bind,Sem.run_pure,Result.andThen_ok,d.sizeOf];rw[if_neg (by simp[h]),Av1];exact c
theorem Dl9 (w:World)(g:Nat)(cs:Array Value):Am7 (λ b=>b=g) w (w.setRow g cs):=⟨rfl,rfl,rfl,by simp,λ b _ c=>setRow_other w g b cs c,Nat.le_refl _⟩
theorem Bl2 (m:Ac6 P tt){i:TyI}(n:o.op = .store t p x)(hi:look tt t=some i){v:Value}{k off:Nat}{cs:List Value}(q:(Ac7 v).length=i.size)(h1:Ed1 (Ac7 v)=true)(d:look st.C k=some (.box cs))(hle:off+i.size<=cs.length){β:Nat->Nat}{σ:Nat->Value}{Wa:PW}{Q:Exit->Act->World->Prop}(f:Run W0 M st W β σ a Wa)(r:a.eval x=v)(u:a.eval p = .pointer (some ⟨β k,off,none⟩))(h:K (.v undef) (Af0 st k (.box (Aj6 cs off (Ac7 v)))) W):o.wp P a Wa.w (Res W0 M st β σ a o K) Q:=by
 obtain⟨⟨e,j⟩,w⟩:=f.rel.C _ _ d;have l:=Bb1 (m.Aq3 hi) Wa.w j q h1 (by simpa using hle);simp only at l;obtain⟨y,z⟩:=Run.set (Wa':=⟨Wa.w.setRow (β k) (Aj6 cs off (Ac7 v)).toArray,Wa.S⟩) (bl:=.box (Aj6 cs off (Ac7 v))) f d
  ⟨rfl,rfl,rfl,by simp,λ b _ A=>setRow_other _ _ _ _ (λ he=>A (by simp[Ab8,he])),Nat.le_refl _⟩ (λ b c=>c) (λ b c _=>c)
  ⟨⟨e,setRow_heap _ _ _ _ _ _ j⟩,w⟩ (λ g B=>by simpa[Ab8] using B)
 exact Ay3 (by simp only[execOp,n,r,u,Sem.run_bind,l,Result.andThen_ok,Sem.run_pure]) ⟨.v undef,β,σ,_,W,_,rfl,rfl,y,trivial,rfl,h,z,Ab2⟩
theorem Ds3 {xs:List (List Value)}{i:Nat}(h:i<xs.length):xs.getD i []∈xs:=by
 rw[List.getD_eq_getElem?_getD,List.getElem?_eq_getElem h];exact List.getElem_mem h
theorem Dr9: ∀(l a b c:List Value) (o:Nat),o+l.length<=b.length->Aj6 (a ++ b ++ c) (a.length+o) l=a ++ Aj6 b o l ++ c
 | l,a,b,c,o,h=>by
  rw[Al5 l _ _ (by simp;omega),Al5 l _ _ h];have e:a ++ b ++ c=a ++ (b ++ c):=List.append_assoc _ _ _;rw[e,List.take_append,List.drop_append,List.take_of_length_le (l:=a) (by omega),List.drop_of_length_le (l:=a) (by omega),
   show a.length+o-a.length=o by omega,show a.length+o+l.length-a.length=o+l.length by omega,List.take_append_of_le_length (by omega),List.drop_append_of_le_length h]
  simp
theorem Co0 {sz:Nat}{xs:List (List Value)}(b: ∀x∈xs,x.length=sz){i:Nat}(hi:i<xs.length){l:List Value}{off:Nat}(h:off+l.length<=sz):
  (Ci8 xs i off l).flatten=Aj6 xs.flatten (i*sz+off) l/\((xs.getD i []).length=sz->(patch (xs.getD i []) off l).length=sz):=by
 have c:=b _ (Ds3 hi);have d:patch (xs.getD i []) off l=Aj6 (xs.getD i []) off l:=(Al5 l _ _ (by omega)).symm;have f:(patch (xs.getD i []) off l).length=sz:=by rw[d,Ak7,c]
 refine⟨?_,λ _=>f⟩;unfold Ci8;rw[Ap5 b hi f,d];have j:xs=xs.take i ++ [xs.getD i []] ++ xs.drop (i+1):=by
  rw[List.getD_eq_getElem?_getD,List.getElem?_eq_getElem hi];simp
 have m:(xs.take i).flatten.length=i*sz:=by
  rw[Ac0 (λ x c=>b x (List.mem_of_mem_take c))];simp only[List.length_take];rw[show min i xs.length=i by omega]
 have n:xs.flatten=(xs.take i).flatten ++ xs.getD i [] ++ (xs.drop (i+1)).flatten:=by
  conv=>lhs;rw[j]
  simp
 rw[n,<-m];have g:=Dr9 (Aj6 (xs.getD i []) off l) (xs.take i).flatten (xs.getD i []) (xs.drop (i+1)).flatten 0 (by rw[Ak7];omega);have q:=Dr9 l (xs.take i).flatten (xs.getD i []) (xs.drop (i+1)).flatten off (by omega);simp only[Nat.add_zero] at g;rw[g,q];congr 2;rw[Al5 _ _ _ (by rw[Ak7];omega),Ak7];simp
theorem Ez8 (A B l:List Value)(p:Nat)(h:p+l.length<=A.length):(A ++ B).take p ++ l ++ (A ++ B).drop (p+l.length)=(A.take p ++ l ++ A.drop (p+l.length)) ++ B:=by
 rw[List.take_append_of_le_length (by omega),List.drop_append_of_le_length h,<-List.append_assoc]
theorem Bk4 (E:Ac6 P tt){i:TyI}(F:o.op = .store t p x)(hi:look tt t=some i){v:Value}{k sz c off l:Nat}{xs d:List (List Value)}(f:(Ac7 v).length=i.size)(h1:Ed1 (Ac7 v)=true)(r:look st.C k=some (.row l sz xs))(hle:off+i.size<=sz)(G:c<xs.length)(H:d.flatten=Aj6 xs.flatten (c*sz+off) (Ac7 v))(hlen:d.length=xs.length)(w: ∀x∈d,x.length=sz/\∀u∈x,u.oneCell'=true){β:Nat->Nat}{σ:Nat->Value}{Wa:PW}{Q:Exit->Act->World->Prop}(y:Run W0 M st W β σ a Wa)(j:a.eval x=v)(I:a.eval p=SV.val β σ (.oe k sz c off))(h:K (.v undef) (Af0 st k (.row l sz d)) W):o.wp P a Wa.w (Res W0 M st β σ a o K) Q:=by
 obtain⟨⟨J,hO⟩,L⟩:=y.rel.C _ _ r;rcases hO.2 with⟨_,h0⟩ | ⟨g,cap,cur,m,N,z,O,R,S,C⟩
 ·omega
 have D:=Ac0 (λ x j=>(J x j).1);have ab:c*sz+sz<=xs.length*sz:=by rw[<-Nat.succ_mul];exact Nat.mul_le_mul_right _ G
 have ac:xs.length*sz<=cap*sz:=Nat.mul_le_mul_right _ O;have T:a.eval p = .pointer (some ⟨g,c*sz+off,none⟩):=by rw[I];simp only[SV.val,m,Addr.add_lit,Nat.zero_add]
 have U:=Bb1 (E.Aq3 hi) Wa.w z f h1 (pos:=c*sz+off) (by omega);have hblk:Ab8 β σ k (.row l sz xs)=some g:=by simp[Ab8,m,Value.ownBlock]
 obtain⟨V,X⟩:=Run.set (Wa':=⟨Wa.w.setRow g (Aj6 cur.toList (c*sz+off) (Ac7 v)).toArray,Wa.S⟩) (bl:=.row l sz d) y r
  ⟨rfl,rfl,rfl,by simp,λ b _ Y=>setRow_other _ _ _ _ (λ he=>Y (by rw[hblk,he])),Nat.le_refl _⟩ (λ b n=>n) (λ b n _=>n)
  (by
   refine⟨⟨w,?_,.inr ⟨g,cap,_,by rw[m,hlen],N,setRow_heap _ _ _ _ _ _ z,by omega,R,by simp[Ak7,S],?_⟩⟩,L⟩
   ·exact Ac0 λ x j=>(w x j).1
   ·simp only[hlen]
    rw[H,Al5 _ _ _ (by rw[f];simp;omega),Al5 _ _ _ (by rw[f,D];omega),<-C];have e:cur.toList=cur.toList.take (xs.length*sz) ++ cur.toList.drop (xs.length*sz):=(List.take_append_drop _ _).symm;have q:(cur.toList.take (xs.length*sz)).length=xs.length*sz:=by rw[C,D]
    generalize cur.toList.take (xs.length*sz)=A at e q;generalize cur.toList.drop (xs.length*sz)=B at e;rw[e,Ez8 A B (Ac7 v) (c*sz+off) (by rw[f,q];omega)];exact List.take_left' (by simp only[List.length_append,List.length_take,List.length_drop,q,f];omega))
  (λ g Z=>by simpa[Ab8] using Z)
 exact Ay3 (by simp only[execOp,F,j,T,Sem.run_bind,U,Result.andThen_ok,Sem.run_pure]) ⟨.v undef,β,σ,_,W,_,rfl,rfl,V,trivial,rfl,h,X,Ab2⟩
theorem Cv1 {s:Sl}(m:Ac6 P tt){i:TyI}(n:o.op = .store t p x)(hi:look tt t=some i){v:Value}{sz c off:Nat}(d:(Ac7 v).length=i.size)(h1:Ed1 (Ac7 v)=true){β:Nat->Nat}{σ:Nat->Value}{Wa:PW}{Q:Exit->Act->World->Prop}(f:Run W0 M st W β σ a Wa)(r:a.eval x=v)(u:a.eval p=SV.val β σ (.e s sz c off))(h:An9 W0 M s (c*sz+off) (Ac7 v) W λ W=>K (.v undef) st W):o.wp P a Wa.w (Res W0 M st β σ a o K) Q:=by
 obtain⟨g,q,cs,e,w,j,l,hle,y,z⟩:=h Wa f.ext;have A:a.eval p = .pointer (some ⟨g,q+(c*sz+off),none⟩):=by rw[u];simp only[SV.val,w,Addr.add_lit]
 have B:=Bb1 (m.Aq3 hi) Wa.w l d h1 (pos:=q+(c*sz+off)) (by rw[<-d];exact hle);have hk:=Dl9 Wa.w g (Aj6 cs.toList (q+(c*sz+off)) (Ac7 v)).toArray;have C:=Run.world (Wa':=⟨Wa.w.setRow g (Aj6 cs.toList (q+(c*sz+off)) (Ac7 v)).toArray,Wa.S⟩) f hk (λ _=>Iff.rfl) (λ F e=>by subst e;exact⟨j,y⟩);refine Ay3 (by simp only[execOp,n,r,A,Sem.run_bind,B,Result.andThen_ok,Sem.run_pure]) ⟨.v undef,β,σ,st,_,_,rfl,rfl,C,trivial,rfl,z _ ⟨⟨by simp,λ b G D E=>⟨setRow_other _ _ _ _ E,D⟩⟩,j,setRow_heap _ _ _ _ _ _ l⟩,Ah1.refl _,Ab2⟩
theorem By4 {i:Nat}{K:Nat->Prop}: ∀{n:Nat} (_:Cn2 i K n) (_:i<n),K i
 | 0,_,h=>by omega
 | n+1,h,hi=>by
  by_cases e:i=n
  ·exact e ▸ h.2 e
  ·exact By4 h.1 (by omega)
theorem Dj8 (c:Ac6 P tt){i:TyI}(d:o.op = .store t p x)(hi:look tt t=some i){v:Value}{k base sz len b off:Nat}{cs:List Value}(f:(Ac7 v).length=i.size)(h1:Ed1 (Ac7 v)=true)(g:look st.C k=some (.box cs))(hle:base+len*sz<=cs.length)(q:off+i.size<=sz){β:Nat->Nat}{σ:Nat->Value}{Wa:PW}{Q:Exit->Act->World->Prop}(l:Run W0 M st W β σ a Wa)(m:a.eval x=v)(n:a.eval p=SV.val β σ (.pe k base sz len b off))(h:b<len/\Cn2 b (λ j=>K (.v undef) (Af0 st k (.box (Aj6 cs (Nat.add (Nat.add base (Nat.mul j sz)) off) (Ac7 v)))) W) len):o.wp P a Wa.w (Res W0 M st β σ a o K) Q:=by
 have r:b*sz+sz<=len*sz:=by rw[<-Nat.succ_mul];exact Nat.mul_le_mul_right _ h.1
 exact Bl2 c d hi f h1 g (off:=base+b*sz+off) (by omega) l m n (By4 h.2 h.1)
end
end Go.SX
namespace Go.SX
variable {P:Program} {tt:List (Nat×TyI)} {W0:PW} {M:Nat->Prop}
section
variable {st:SS} {W:PW} {o:Oper} {K:SV->SS->PW->Prop}
theorem Cu5 {i:TyI}{K:Value->Prop}(h:exV i K): ∃v,K v:=by
 obtain⟨l,b,_⟩:=Ah7 h
 cases c:i.agg with
 | true=>rw[c] at b;exact⟨_,b⟩
 | false=>
  rw[c] at b
  match l,b with
  | [x],b=>exact⟨x,b⟩
  | [],b=>exact b.elim
  | _ :: _ :: _,b=>exact b.elim
theorem Cf3: ∀{ts:List TypeId} {K:List Value->Prop} (_:Fo4 tt ts K),∃l,K l
 | [],K,h=>⟨[],h⟩
 | t::r,K,h=>by
  simp only[Fo4] at h;split at h
  ·obtain⟨v,b⟩:=Cu5 h
   obtain⟨l,c⟩:=Cf3 (ts:=r) b;exact⟨v::l,c⟩
  ·exact h.elim
theorem Al4 {t:TypeId}{v:Value}{K:Value->Prop}(h:Cc9 tt t v K):K v:=by
 unfold Cc9 at h;split at h
 ·split at h
  ·obtain⟨l,rfl,b⟩:=Cf3 h
   exact b
  ·obtain⟨x,rfl,c⟩:=Cu5 h
   exact c
 ·exact h.elim
theorem Ez2 {f:Operand}{args:Array Operand}{q:Array TypeId}{g:FuncId}{first:Array Value}{captured:Array Value}{a:Act}(r:o.op = .call {callee:=.value f,args:=args,argTypes:=q }){β:Nat->Nat}{σ:Nat->Value}{Wa:PW}{Q:Exit->Act->World->Prop}(u:Run W0 M st W β σ a Wa)(w:a.eval f = .func (.func g) first captured)(h:Fh7 W0 args.toList st W λ l st W=>Aa1 P W0 M g (first.toList ++ l ++ captured.toList) W λ v W=>Cc9 tt o.type v λ x=>K (.v x) st W):o.wp P a Wa.w (Res W0 M st β σ a o K) Q:=by
 obtain⟨vs,st1,O,c,d,he,hw,i,y,z⟩:=Bh0 h u;obtain⟨N,R,⟨⟨fn,A,S,B⟩,C⟩,D,d⟩:=d c i.ext;have j:fn.body.isNone=false:=by cases T:fn.body<;>simp_all
 have E:(first ++ args.map a.eval ++ captured)=(first.toList ++ vs ++ captured.toList).toArray:=by
  apply Array.ext';simp[<-he]
 have F:(execOp a.eval o).run P Wa.w = .ok (.enter g (first.toList ++ vs ++ captured.toList).toArray) Wa.w:=by
  simp only[execOp,r,resolve,w,Deferred.ofValue,Sem.run_bind,Sem.run_pure,Result.andThen_ok,invoke,callFunc,run_program,A,B,j,E];rfl
 unfold Oper.wp;rw[F];simp only[Oper.upon];have m:=C i.lt;rw[hw] at m;refine Calls.mono m ?_;rintro e n ⟨v,rfl,hk,G⟩;have H:=Run.world (Wa':=⟨n,c.S⟩) i (by rw[hw];exact hk) (λ _=>Iff.rfl) D;have I:Au9 N c ⟨n,c.S⟩:=⟨by rw[hw];exact hk.size,λ b j J L=>⟨by rw[hw];exact hk.block b (by rw[<-hw];exact j) L,J⟩⟩;exact Res.of y z ⟨.v v,β,σ,st1,_,_,rfl,rfl,H,trivial,rfl,Al4 (d v _ I G),Ah1.refl _,Ab2⟩
def Aw9 (w:World) (y:Value) (sz:Nat) (b:List (List Value)):Prop:=
 (∀x∈b,x.length=sz/\∀u∈x,u.oneCell'=true)/\b.length<=maxLen/\((∃c,y = .slice none 0 c/\b = [])\/∃d c,y = .slice (some d) b.length c/\∀j u,b.flatten[j]?=some u->w.cell? (d.add j)=some u)
theorem Row.behind {s:Sl}{W Wa:PW}{t sz:Nat}{d:List (List Value)}(h:Row W t sz s d)(i:Ext W Wa):Aw9 Wa.w s.v sz d:=by
 obtain⟨h1,l,m,r,f⟩:=h;refine⟨r,by omega,?_⟩;obtain⟨A,n,c⟩:=s;simp only at h1 l m f;subst h1;rcases f with rfl | ⟨b,q,cs,v,w,y,g,z⟩
 ·cases A with
  | none=>exact .inl ⟨c,rfl,rfl⟩
  | some B=>exact .inr ⟨B,c,rfl,by simp⟩
 ·subst w
  refine .inr ⟨_,c,rfl,λ j u hu=>?_⟩;have hk:=i.Ai1 b (Array.getElem?_eq_some_iff.1 g).1 y;rw[Addr.add_lit,cell_of_row Wa.w b (q+j) cs t v (hk.1.trans g)];exact z j u hu
theorem Ai0.behind {w:World}{t sz:Nat}{v:Value}{b:List (List Value)}(h:Ai0 w t sz v b):Aw9 w v sz b:=by
 obtain⟨c,d⟩:=h;rcases d.2 with⟨rfl,f⟩ | ⟨g,cap,cur,rfl,_,i,l,m,n,q⟩
 ·exact⟨c,by simp[f],.inl ⟨0,rfl,List.eq_nil_of_length_eq_zero f⟩⟩
 ·exact⟨c,by omega,.inr ⟨_,cap,rfl,λ j u hu=>d.cells (g:=g) rfl j u hu⟩⟩
theorem Aw9.nil (w:World)(sz:Nat):Aw9 w (.slice none 0 0) sz []:=⟨by simp,by simp,.inl ⟨0,rfl,rfl⟩⟩
theorem Dd4 {x:Operand}{e sz:Nat}{K:List (List Value)->Prop}(h:Ey2 e sz x st W K): ∃b,K b/\Bo3 st W λ β σ a Wa=>Aw9 Wa.w (a.eval x) sz b:=by
 unfold Ey2 at h;obtain⟨s,d,h1⟩:=Ac8 (W:=W) h;split at d
 ·rename_i k
  split at d
  ·rename_i t u b i
   split at d
   ·rename_i m q
    obtain rfl:=Nat.eq_of_beq_eq_true m;obtain rfl:=Nat.eq_of_beq_eq_true q;refine⟨b,d,λ β σ a Wa f g=>?_⟩;show Aw9 Wa.w (a.eval x) sz b;rw[(h1 β σ a Wa f g).1];exact(f.C _ _ i).1.behind
   ·exact d.elim
  ·rename_i A n c i
   obtain⟨b,⟨_,j⟩,l⟩:=d;refine⟨b,l,λ β σ a Wa f g=>?_⟩;show Aw9 Wa.w (a.eval x) sz b;rw[(h1 β σ a Wa f g).1];have r:σ k = .slice A n c:=f.C _ _ i;simp only[SV.val,r];exact j.behind g
  ·exact d.elim
 ·refine⟨[],d,λ β σ a Wa f g=>?_⟩
  show Aw9 Wa.w (a.eval x) sz [];rw[(h1 β σ a Wa f g).1];exact Aw9.nil _ _
 ·rename_i A n c _
  obtain⟨b,⟨_,j⟩,l⟩:=d;refine⟨b,l,λ β σ a Wa f g=>?_⟩;show Aw9 Wa.w (a.eval x) sz b;rw[(h1 β σ a Wa f g).1];exact j.behind g
 ·exact d.elim
theorem Dn2 {y:Value}{t ty e:Nat}{j:TyI}(i:P.underlying t=some (.slice e))(n:Af4 P e j)(q:0<j.size){w:World}{v:Value}{xs b:List (List Value)}(d:Ai0 w e j.size v xs)(r:Aw9 w y j.size b)(z:0<j.bytes)(A:(xs.length+b.length)*j.bytes<=140737488355328):
  ∃v' w',(Builtin.append_ #[t,t] ty #[v,y]).run P w = .ok v' w'/\Ai0 w' e j.size v' (xs ++ b)/\w.grownBy w' v.ownBlock/\(v'.ownBlock=v.ownBlock\/v'.ownBlock=some w.heap.size):=by
 obtain⟨⟨inf,l,B,C,D⟩,_,_,E,_⟩:=n;obtain⟨m,S,F⟩:=r;have G:xs.length+b.length<=maxLen:=by
  have:(xs.length+b.length)*1<=(xs.length+b.length)*j.bytes:=Nat.mul_le_mul_left _ z;simp only[maxLen];omega
 rcases F with⟨c,rfl,rfl⟩ | ⟨H,c,rfl,I⟩
 ·rcases d.2.2 with⟨rfl,T⟩ | ⟨g,cap,cur,rfl,_,U,J,V,X,Y⟩
  ·refine⟨.slice none 0 0,w,?_,by simpa using d,⟨rfl,rfl,rfl,Nat.le_refl _,λ _ _ _=>rfl⟩,.inl rfl⟩
   simp[Builtin.append_,run_underlying i,sizeOf,typeInfo,l,Builtin.lenOf,Builtin.firstCells]
  ·refine⟨.slice (some ⟨g,0,none⟩) xs.length cap,w,?_,by simpa using d,⟨rfl,rfl,rfl,Nat.le_refl _,λ _ _ _=>rfl⟩,.inl rfl⟩
   simp[Builtin.append_,run_underlying i,sizeOf,typeInfo,l,Builtin.lenOf,Builtin.firstCells,J,storeCells]
 ·have L:b.flatten.length=b.length*j.size:=Ac0 λ x f=>(m x f).1
  obtain⟨v',w',N,h1,O,_,Q⟩:=run_append_own_at (P:=P) w 0 t ty e inf j.zv j.size j.bytes i l D B C E q v xs.length xs.flatten d.2 H b.length c b.flatten L I
   (by intro u hu;obtain⟨x,f,R⟩:=List.mem_flatten.1 hu;exact(m x f).2 u R) G A (Nat.zero_le _)
  refine⟨v',w',N,⟨?_,by simpa using h1⟩,O,Q⟩;intro x f;rcases List.mem_append.1 f with h | h
  ·exact d.1 x h
  ·exact m x h
end
end Go.SX
namespace Go.SX
variable {w':World}
variable {P:Program} {tt:List (Nat×TyI)} {W0:PW} {M:Nat->Prop}
section
variable {st:SS} {W:PW} {o:Oper} {K:SV->SS->PW->Prop}
theorem Ce1 {w:World}{row:Option Nat}(h:w.grownBy w' row)(c:w.drawn<=w'.drawn):Am7 (λ b=>row=some b) w w':=
 ⟨h.os,h.tape,h.output,h.size,λ b d f=>h.block b d λ e=>f e.symm,c⟩
theorem Run.move {a:Act}{v':Value}{Wa:PW}{β:Nat->Nat}{σ:Nat->Value}(h:Run W0 M st W β σ a Wa){k t sz e v:Nat}{xs zs:List (List Value)}(q:look st.C k=some (.row t sz xs))(hk:Am7 (λ b=>(σ k).ownBlock=some b) Wa.w w')(hO:Ai0 w' e v v' zs)(c:v'.ownBlock=(σ k).ownBlock\/v'.ownBlock=some Wa.w.heap.size)(R: ∀g,v'.ownBlock=some g->g<w'.heap.size):
  Run W0 M (Ac4 (Af0 st k .dead) (.row e v zs)) W (upd β st.nx 0) (upd σ st.nx v') a ⟨w',λ b=>(Wa.S b/\¬(σ k).ownBlock=some b)\/v'.ownBlock=some b⟩/\
   Ah1 st (Ac4 (Af0 st k .dead) (.row e v zs))/\(∀i,i<st.nx->upd β st.nx 0 i=β i/\upd σ st.nx v' i=σ i):=by
 have n: ∀i,i<st.nx->upd β st.nx 0 i=β i/\upd σ st.nx v' i=σ i:=λ i hi=>by simp[upd,show i≠st.nx by omega]
 have S:=h.nC _ _ q;have w: ∀i bl',look (Ac4 (Af0 st k .dead) (.row e v zs)).C i=some bl'->(i=st.nx/\bl' = .row e v zs)\/(i=k/\bl' = .dead)\/(i≠k/\i<st.nx/\look st.C i=some bl'):=by
  intro i bl' d;simp only[Ac4,Af0,Ab4] at d;split at d
  ·rename_i he;exact .inl ⟨he.symm,(Option.some.inj d).symm⟩
  ·split at d
   ·rename_i he;exact .inr (.inl ⟨he.symm,(Option.some.inj d).symm⟩)
   ·rename_i m;exact .inr (.inr ⟨λ e=>m e.symm,h.nC _ _ d,d⟩)
 have I: ∀i bl' g,i≠k->look st.C i=some bl'->Ab8 β σ i bl'=some g->Wa.S g/\¬(σ k).ownBlock=some g:=λ i bl' g m d r=>
  ⟨Ca6 (h.rel.C i bl' d) r,λ e=>h.rel.inj i k bl' _ g m d q r (by simpa[Ab8] using e)⟩
 have J: ∀g,(σ k).ownBlock=some g->Wa.S g:=(h.rel.C k _ q).2;refine⟨⟨⟨h.rel.defers,h.rel.size,λ i s j=>?_,λ i bl' d=>?_,?_,h.rel.dom⟩,?_,?_,?_,?_,?_,h.b0,?_,?_⟩,?_,n⟩
 ·obtain⟨h1,z⟩:=h.rel.T i s j
  exact⟨h1.trans (Ar8 n z).symm,(Ay6 n z).mono (Nat.le_succ _)⟩
 ·rcases w i bl' d with⟨rfl,rfl⟩ | ⟨rfl,rfl⟩ | ⟨m,u,C⟩
  ·refine⟨?_,λ g r=>.inr (by simpa[upd] using r)⟩
   simpa[upd] using hO
  ·trivial
  ·refine(h.rel.C i bl' C).same n u λ g l=>?_
   obtain⟨j,D⟩:=I i bl' g m C l;exact⟨hk.block g (h.lt g j) D,.inl ⟨j,D⟩⟩
 ·intro i E b1 b2 g m h1 z A y
  have L: ∀i bl',i≠k->i<st.nx->look st.C i=some bl'->Ab8 (upd β st.nx 0) (upd σ st.nx v') i bl'=some g->Ab8 (upd β st.nx 0) (upd σ st.nx v') st.nx (.row e v zs)=some g->False:=by
   intro i bl' m u d r l;rw[Ad7 n u] at r;obtain⟨j,D⟩:=I i bl' g m d r;simp only[Ab8,upd,if_true] at l;rcases c with c | c
   ·exact D (by rw[<-c];exact l)
   ·rw[l] at c
    have:=h.lt g j;simp only[Option.some.injEq] at c;omega
  rcases w i b1 h1 with⟨rfl,rfl⟩ | ⟨rfl,rfl⟩ | ⟨T,N,O⟩
  ·rcases w E b2 z with⟨rfl,rfl⟩ | ⟨rfl,rfl⟩ | ⟨Q,F,G⟩
   ·exact m rfl
   ·simp[Ab8] at y
   ·exact L E b2 Q F G y A
  ·simp[Ab8] at A
  ·rcases w E b2 z with⟨rfl,rfl⟩ | ⟨rfl,rfl⟩ | ⟨Q,F,G⟩
   ·exact L i b1 T N O A y
   ·simp[Ab8] at y
   ·rw[Ad7 n N] at A
    rw[Ad7 n F] at y;exact h.rel.inj i E b1 b2 g m O G A y
 ·refine h.ext.trans (B:=Wa) ⟨hk.size,λ b U H=>⟨hk.block b U λ e=>H (J b e),λ j=>?_⟩⟩
  rcases j with j | j
  ·exact H j.1
  ·rcases c with c | c
   ·exact H (J b (by rw[<-c];exact j))
   ·rw[j] at c
    simp only[Option.some.injEq] at c;omega
 ·exact h.Ai1.then hk λ i hi=>.inr (h.fresh k _ i q (by simpa[Ab8] using hi))
 ·intro b f
  rcases f with f | f
  ·exact h.priv b f.1
  ·rcases c with c | c
   ·exact .inr (h.fresh k _ b q (by simpa[Ab8,<-c] using f))
   ·rw[f] at c
    simp only[Option.some.injEq] at c;exact .inr (by rw[c];exact h.Ai1.size)
 ·intro b f
  rcases f with f | f
  ·exact Nat.lt_of_lt_of_le (h.lt b f.1) hk.size
  ·exact R b f
 ·refine λ b f=>.inl ⟨h.s0 b f,λ e=>?_⟩
  have:=h.b0 b f;have:=h.fresh k _ b q (by simpa[Ab8] using e);omega
 ·intro i bl' d
  rcases w i bl' d with⟨rfl,_⟩ | ⟨rfl,_⟩ | ⟨_,u,_⟩
  ·exact Nat.lt_succ_self _
  ·exact Nat.lt_succ_of_lt S
  ·exact Nat.lt_succ_of_lt u
 ·intro i bl' g d l
  rcases w i bl' d with⟨rfl,rfl⟩ | ⟨rfl,rfl⟩ | ⟨_,u,C⟩
  ·simp only[Ab8,upd,if_true] at l
   rcases c with c | c
   ·exact h.fresh k _ g q (by simpa[Ab8,<-c] using l)
   ·rw[l] at c
    simp only[Option.some.injEq] at c;rw[c];exact h.Ai1.size
  ·simp[Ab8] at l
  ·rw[Ad7 n u] at l
   exact h.fresh i bl' g C l
 ·refine⟨Nat.le_succ _,rfl,[k],rfl,λ i hi V=>?_⟩
  simp only[Ac4,Af0,Ab4];rw[if_neg (by omega),if_neg (by simpa using λ e=>V (by simp[e]))]
end
end Go.SX
namespace Go.SX
variable {e et kt t:TypeId}{k x:Operand}{ob:Obj}
variable {P:Program} {tt:List (Nat×TyI)} {W0:PW} {M:Nat->Prop}
theorem Ax3 {sz:Nat}: ∀{xs:List (List Value)} (_: ∀x∈xs,x.length=sz) (k:Nat),(xs.take k).flatten=xs.flatten.take (k*sz)
 | [],_,k=>by simp
 | x::xs,h,0=>by simp
 | x::xs,h,k+1=>by
  have b:=h x (by simp);have:=Ax3 (λ y c=>h y (by simp[c])) (xs:=xs) k;simp only[List.take_succ_cons,List.flatten_cons,this];rw[List.take_append,b,List.take_of_length_le (l:=x) (by rw[b,Nat.add_mul];omega),show(k+1)*sz-sz=k*sz by rw[Nat.add_mul];omega]
theorem Own.take {s:Sl}{W:PW}{sz:Nat}{xs:List (List Value)}(h:Own W t sz s xs){k:Nat}(hk:k<=xs.length):Own W t sz ⟨s.A,k,s.c⟩ (xs.take k):=by
 obtain⟨⟨d,hlen,j⟩,l⟩:=h;have i:(xs.take k).length=k:=by simp[hk]
 refine⟨⟨λ x b=>d x (List.mem_of_mem_take b),?_,?_⟩,λ g f=>l g (by simp only[Sl.v] at f⊢;cases m:s.A<;>simp[m,Value.ownBlock] at f⊢;exact f)⟩
 ·rw[Ax3 (λ x b=>(d x b).1),List.length_take,hlen,i]
  exact Nat.min_eq_left (Nat.mul_le_mul_right _ hk)
 ·rw[i]
  rcases j with⟨c,n⟩ | ⟨g,cap,cur,c,q,r,h1,u,v,w⟩
  ·have:xs = []:=List.length_eq_zero_iff.1 n
   subst this;simp only[Sl.v,Value.slice.injEq] at c;have y:k=0:=by simpa using hk
   subst y;exact .inl ⟨by simp only[Sl.v,c],rfl⟩
  ·simp only[Sl.v,Value.slice.injEq] at c
   refine .inr ⟨g,cap,cur,by simp only[Sl.v,c],q,r,by omega,u,v,?_⟩;rw[Ax3 (λ x b=>(d x b).1),<-w,List.take_take,Nat.min_eq_left (Nat.mul_le_mul_right _ hk)]
section
variable {st:SS} {W:PW} {o:Oper} {K:SV->SS->PW->Prop}
theorem Dl6 {d:TypeDesc}{k:TypeId}(h:Au8 d = .map k e):d = .map k e:=by cases d<;>simp_all [Au8]
theorem Ext.pub {W Wa:PW}(c:Ext W Wa){g:Nat}(d:¬W.S g)(b:W.w.heap[g]?=some ob):¬Wa.S g/\Wa.w.heap[g]?=some ob:=
 have hk:=c.Ai1 g (Array.getElem?_eq_some_iff.1 b).1 d
 ⟨hk.2,hk.1.trans b⟩
theorem De7 (f:o.op = .makeMap t none)(h:Cj7 W0 W λ g W=>K (.v (.map (some g))) st W):Az0 P W0 M st W o K:=by
 intro β σ a Wa Q c;have hk:=Am7.alloc (λ _=>False) Wa.w (.map #[] 0);have i:=Run.world (Wa':=⟨Wa.w.alloc (.map #[] 0),Wa.S⟩) c hk (λ _=>Iff.rfl) (λ _ h=>h.elim);refine Ae1 (v:=.map (some Wa.w.heap.size)) ?_ ⟨.v (.map (some Wa.w.heap.size)),β,σ,st,_,_,rfl,rfl,i,trivial,rfl,h Wa.w.heap.size _ (c.ext.trans ⟨hk.size,λ b j d=>⟨hk.block b j id,d⟩⟩) c.ext.size c.Ai1.size (λ d=>?_) ?_,Ah1.refl _,Ab2⟩
 ·simp[execOp,f,Instr.makeMap]
 ·have:=c.lt _ d
  omega
 ·exact heap_alloc_new _ _
theorem Dv3 (n:Ac6 P tt){i j:TyI}(I:o.op = .lookup t x k false)(hi:look tt t=some i)(hu:i.und = .map kt et)(J:look tt et=some j)(h:evP W0 x st W λ m st W=>evP W0 k st W λ u st W=>match m with
     | .map r=>∃g,r=some g/\Fg5 P kt W g u j.zv λ v=>Cc9 tt et v λ y=>K (.v y) st W
     | _=>False):Az0 P W0 M st W o K:=by
 intro β σ a Wa Q L;obtain⟨_,⟨d,w,N⟩,_⟩:=n.Aq3 hi;obtain rfl:=Dl6 (N.trans hu);obtain⟨m,st1,W1,ai,z,he,hw,O,R,S⟩:=Ah3 h L;obtain⟨u,st2,A,B,b,C,T,D,U,V⟩:=Ah3 z O;clear z h;split at b
 ·obtain⟨g,rfl,E,⟨lk,F⟩,es,c,X,Y,Z,aa,ab⟩:=b
  obtain⟨ak,f⟩:=D.ext.pub X Y;have G:B.w=Wa.w:=T.trans hw;rw[G] at f;have fin: ∀v,(Instr.lookup t (a.eval x) (a.eval k) false).run P Wa.w = .ok v Wa.w->K (.v v) st2 A->o.wp P a Wa.w (Res W0 M st β σ a o K) Q:=λ v hr hv=>
   Ae1 (v:=v) (by simp[execOp,I,hr]) (Res.of (U.trans R) (S.trans V) ⟨.v v,β,σ,st2,A,B,G,rfl,D,trivial,rfl,hv,Ah1.refl _,Ab2⟩)
  have H:=E.check Wa.w es.isEmpty F;rcases E.find Wa.w F es.toList Z with⟨l,hn⟩ | ⟨q,e,l,hq,ag⟩
  ·refine fin j.zv ?_ (Al4 (ab hn))
   rw[he,C];simp[Instr.lookup,run_underlying w,getObj,Sem.run,f,Sem.run_bind];simp only[Sem.run_bind,H,l,Result.andThen_ok,(n.Aq3 J).zero,Sem.run_pure]
  ·refine fin e.val ?_ (Al4 (aa e (List.mem_of_getElem? hq) ag))
   rw[he,C];simp[Instr.lookup,run_underlying w,getObj,Sem.run,f,Sem.run_bind];simp only[Sem.run_bind,H,l,Result.andThen_ok,Sem.run_pure]
 ·exact b.elim
theorem Cg2 {y:Operand}(V:Ac6 P tt){i:TyI}(X:o.op = .mapUpdate t x k y)(hi:look tt t=some i)(hu:i.und = .map kt et)(h:evP W0 x st W λ m st W=>evP W0 k st W λ A st W=>evP W0 y st W λ v st W=>match m with
    | .map r=>∃g,r=some g/\Fq4 P W0 M kt W g A v λ W=>K (.v undef) st W
    | _=>False):Az0 P W0 M st W o K:=by
 intro β σ a Wa Q Y;obtain⟨_,⟨d,F,Z⟩,_⟩:=V.Aq3 hi;obtain rfl:=Dl6 (Z.trans hu);obtain⟨m,st1,W1,ax,G,he,hw,aa,ab,ac⟩:=Ah3 h Y;obtain⟨A,st2,W2,az,H,I,ad,ae,af,ag⟩:=Ah3 G aa;obtain⟨v,ah,W3,B,f,J,ai,L,aj,ak⟩:=Ah3 H ae;clear G H h;split at f
 ·obtain⟨g,rfl,C,⟨lk,D⟩,f⟩:=f
  obtain⟨es,c,N,hh,am,an,f⟩:=f B L.ext;have n:B.w=Wa.w:=(ai.trans ad).trans hw;have u:=hh;rw[n] at u;have O:=C.check Wa.w false D;have fin: ∀j l,(Instr.mapUpdate t (a.eval x) (a.eval k) (a.eval y)).run P Wa.w = .ok () (ChangeMaps.setBlock Wa.w g (.map j l))->Eg5 es c A v j l->o.wp P a Wa.w (Res W0 M st β σ a o K) Q:=by
   intro j l hr hp;have hg:=(Array.getElem?_eq_some_iff.1 u).1;have hk:Am7 (λ b=>b=g) Wa.w (ChangeMaps.setBlock Wa.w g (.map j l)):=⟨rfl,rfl,rfl,by simp[ChangeMaps.setBlock],λ b R w=>by simp[ChangeMaps.setBlock,Array.getElem?_setIfInBounds,show ¬g=b from λ e=>w e.symm],Nat.le_refl _⟩;have h2:=Run.world (Wa':=⟨ChangeMaps.setBlock Wa.w g (.map j l),B.S⟩) L (by rw[n];exact hk) (λ _=>Iff.rfl) (λ g' e=>by subst e;exact⟨N,an⟩);refine Ay3 (by simp[execOp,X,hr]) (Res.of ((aj.trans af).trans ab) ((ac.trans ag).trans ak) ⟨.v undef,β,σ,ah,_,_,rfl,rfl,h2,trivial,rfl,f _ j l ⟨by rw[n];exact hk.size,λ b R hs w=>⟨by rw[n];exact hk.block b (by rw[<-n];exact R) w,hs⟩⟩ N (by simp[ChangeMaps.setBlock,hg]) hp,Ah1.refl _,Ab2⟩)
  have S: ∀ob,(setObj g ob).run P Wa.w = .ok () (ChangeMaps.setBlock Wa.w g ob):=λ ob=>by simp[setObj,Sem.run,u,ChangeMaps.setBlock]
  rcases C.find Wa.w D es.toList am with⟨E,w⟩ | ⟨q,e,E,hq,z⟩
  ·refine fin _ _ ?_ (.inr ⟨w,rfl,rfl⟩)
   rw[he,I,J];simp only[Instr.mapUpdate,run_underlying F,getObj,Sem.run_bind,Sem.run,u,Result.andThen,O,E];exact S _
  ·have T:es[q]?=some e:=by simpa using hq
   refine fin _ _ ?_ (.inl ⟨q,e,T,z,rfl,rfl⟩);rw[he,I,J];have U:=C.stays Wa.w D;rw[<-z] at U;simp only[Instr.mapUpdate,run_underlying F,getObj,Sem.run_bind,Sem.run,u,Result.andThen,O,E,T,Option.map_some,Option.getD_some];rw[<-z,U];simp only[z];exact S _
 ·exact f.elim
theorem Ef4 (u:Ac6 P tt){i:TyI}(w:o.op = .range t x)(hi:look tt t=some i)(hu:i.und = .map kt et)(h:evP W0 x st W λ m st W=>match m with
    | .map r=>∃g,r=some g/\∃es c,¬W.S g/\W.w.heap[g]?=some (.map es c)/\K (.p st.nx 0) (Ac4 st (.itr g kt et c #[] c none)) W
    | _=>False):Az0 P W0 M st W o K:=by
 intro β σ a Wa Q y;obtain⟨_,⟨d,z,A⟩,_⟩:=u.Aq3 hi;obtain rfl:=Dl6 (A.trans hu);obtain⟨m,st1,B,f,j,he,hw,l,C,D⟩:=Ah3 h y;split at j
 ·obtain⟨g,rfl,es,c,E,F,j⟩:=j
  obtain⟨_,n⟩:=l.ext.pub E F;have hk:=Am7.alloc (λ _=>False) f.w (.mapIter (some g) c #[] c);obtain⟨r1,G,H⟩:=Run.new (Wa':=⟨f.w.alloc (.mapIter (some g) c #[] c),λ b=>f.S b\/b=f.w.heap.size⟩) (bl:=.itr g kt et c #[] c none) (b':=f.w.heap.size) (v':=undef) l hk
   (λ b=>by simp[Ab8,upd,eq_comm]) ⟨by simp only[upd,if_true,Ae4];exact heap_alloc_new _ _,by simp[upd]⟩ (λ b q=>by simp[Ab8,upd] at q;subst q;simp)
  refine Ae1 (v:=.pointer (some ⟨f.w.heap.size,0,none⟩)) ?_ (Res.of C D ⟨.p st1.nx 0,_,_,_,B,_,by rw[hw],by simp[SV.val,upd],r1,Nat.lt_succ_self _,rfl,j,G,H⟩);rw[hw] at n⊢;simp[execOp,w,he,Instr.range,run_underlying z,getObj,Sem.run,n]
 ·exact j.elim
theorem Cm1 {w:World}{r:Nat}:Am7 (λ b=>b=r) w (ChangeMaps.setBlock w r ob):=⟨rfl,rfl,rfl,by simp[ChangeMaps.setBlock],λ b d c=>by simp[ChangeMaps.setBlock,Array.getElem?_setIfInBounds,show ¬r=b from λ e=>c e.symm],Nat.le_refl _⟩
theorem Ex2 {cur:Option MapEntry}{k g kt et since last:Nat}{seen:Array Nat}(n:o.op = .next x false)(w:Bo3 st W λ β σ a _=>a.eval x=SV.val β σ (.p k 0))(q:look st.C k=some (.itr g kt et since seen last cur))(h: ∃es c,¬W.S g/\W.w.heap[g]?=some (.map es c)/\(∀e∈es.toList,e.born<since)/\since<=last/\
    ((leftOf es (Ae4 seen cur)).size=0->K (.tb false []) st W)/\
    ∀e,e∈(leftOf es (Ae4 seen cur)).toList->K (.tb true [e.key,e.val]) (Af0 st k (.itr g kt et since (Ae4 seen cur) c (some e))) W):Az0 P W0 M st W o K:=by
 intro β σ a Wa Q d;obtain⟨es,c,y,z,hold,A,B,C⟩:=h;obtain⟨L,D⟩:=d.ext.pub y z;obtain⟨r,E⟩:=d.rel.C _ _ q;have i:=w β σ a Wa d.rel d.ext;simp only[SV.val] at i;rcases run_next_at (P:=P) Wa.w o.type (β k) g since last (Ae4 seen cur) es c r D hold A with⟨F,j⟩ | ⟨e,he,f,u,j⟩
 ·exact Ae1 (v:=.tuple #[.bool false]) (by simp[execOp,n,i,j]) ⟨.tb false [],β,σ,st,W,Wa,rfl,rfl,d,trivial,rfl,B F,Ah1.refl _,Ab2⟩
 ·have hk:Am7 (λ b=>Ab8 β σ k (.itr g kt et since seen last cur)=some b) Wa.w (ChangeMaps.setBlock f (β k) (.mapIter (some g) since ((Ae4 seen cur).push e.born) c)):=by
   have h1:Am7 (λ b=>b=β k) f (ChangeMaps.setBlock f (β k) (.mapIter (some g) since ((Ae4 seen cur).push e.born) c)):=Cm1;rcases u with rfl | rfl
   ·exact⟨h1.os,h1.tape,h1.output,h1.size,λ b l m=>h1.block b l λ e=>m (by simp[Ab8,e]),h1.drawn⟩
   ·exact⟨h1.os,h1.tape,h1.output,h1.size,λ b l m=>h1.block b l λ e=>m (by simp[Ab8,e]),Nat.le_trans (Nat.le_succ _) h1.drawn⟩
  have G:β k<f.heap.size:=by
   have:=(Array.getElem?_eq_some_iff.1 r).1;rcases u with rfl | rfl<;>exact this
  obtain⟨H,I⟩:=Run.set (Wa':=⟨ChangeMaps.setBlock f (β k) (.mapIter (some g) since ((Ae4 seen cur).push e.born) c),Wa.S⟩) (bl:=.itr g kt et since (Ae4 seen cur) c (some e)) d q hk (λ _ h=>h) (λ _ h _=>h)
   ⟨by simp[ChangeMaps.setBlock,G,Ae4],E⟩ (λ g J=>by simpa[Ab8] using J)
  exact Ae1 (v:=.tuple #[.bool true,e.key,e.val]) (by simp[execOp,n,i,j]) ⟨.tb true [e.key,e.val],β,σ,_,W,_,rfl,rfl,H,trivial,rfl,C e he,I,Ab2⟩
theorem El1 {k g kt et since last:Nat}{seen:Array Nat}{e:MapEntry}(d:o.op = .entry x)(f:Bo3 st W λ β σ a _=>a.eval x=SV.val β σ (.p k 0))(i:look st.C k=some (.itr g kt et since seen last (some e)))(h1: ∃es,¬W.S g/\W.w.heap[g]?=some (.map es last)/\e∈es.toList/\(es.toList.map (·.born)).Nodup)(h:Cc9 tt kt e.key λ j=>Cc9 tt et e.val λ l=>K (.v (.tuple #[j,l])) st W):Az0 P W0 M st W o K:=by
 intro β σ a Wa Q b;obtain⟨es,m,n,he,q⟩:=h1;obtain⟨y,r⟩:=b.ext.pub m n;obtain⟨u,z⟩:=b.rel.C _ _ i;have c:=f β σ a Wa b.rel b.ext;simp only[SV.val] at c;have w:=run_entry_at (P:=P) Wa.w (β k) g since seen es last e u r he q;exact Ae1 (v:=.tuple #[e.key,e.val]) (by simp[execOp,d,c,w]) ⟨.v _,β,σ,st,W,Wa,rfl,rfl,b,trivial,rfl,Al4 (Al4 h),Ah1.refl _,Ab2⟩
theorem Ai0.take {w:World}{t sz:Nat}{A:Option Addr}{n c:Nat}{xs:List (List Value)}(h:Ai0 w t sz (.slice A n c) xs){q:Nat}(b:q<=xs.length):Ai0 w t sz (.slice A q c) (xs.take q):=
 (Own.take (W:=⟨w,λ _=>False⟩) (s:=⟨A,n,c⟩) ⟨h,λ _ _ h=>h⟩ b).1
theorem Ff4 {hi:Option Operand}(u:Ac6 P tt){k sz:Nat}{xs:List (List Value)}{i j:TyI}(z:o.op = .slice t x none hi none)(f:Bo3 st W λ β σ a _=>a.eval x=SV.val β σ (.o k))(w:look st.C k=some (.row e sz xs))(B:look tt t=some i)(hu:i.und = .slice e)(C:look tt e=some j)(D:sz=j.size)(h:Fe5 st hi xs.length λ h=>(0<=h/\h<=(xs.length:Int))/\K (.o st.nx) (Ac4 (Af0 st k .dead) (.row e sz (xs.take h.toNat))) W):Az0 P W0 M st W o K:=by
 intro β σ a Wa Q b;subst D;obtain⟨_,⟨d,E,F⟩,_⟩:=u.Aq3 B;obtain rfl:=Ai6 (F.trans hu);have G:=u.Aq3 C;obtain⟨n,⟨H,I⟩,J⟩:=As1 (W:=W) h;obtain⟨hO,Y⟩:=b.rel.C _ _ w;have l:=f β σ a Wa b.rel b.ext;simp only[SV.val] at l;have L: ∃A c,σ k = .slice A xs.length c/\xs.length<=c:=by
  rcases hO.2.2 with⟨m,N⟩ | ⟨g,cap,cur,m,_,Z,O,_⟩
  ·exact⟨none,0,by rw[m,N],by omega⟩
  ·exact⟨_,cap,m,O⟩
 obtain⟨A,c,r,hle⟩:=L;have R:(hi.map a.eval=none/\n=(xs.length:Int))\/∃q,hi.map a.eval=some (.int q n):=by
  rcases J with⟨rfl,rfl⟩ | ⟨x,q,rfl,f⟩
  ·exact .inl ⟨rfl,rfl⟩
  ·exact .inr ⟨q,by simp[f β σ a Wa b.rel b.ext]⟩
 have S:=Ax7 (P:=P) (isSlice:=true) (len:=xs.length) (cap:=c) (lo:=none) (.inl ⟨rfl,rfl⟩) R (Int.le_refl 0) H.1 (by omega) Wa.w;have y:Ai0 Wa.w e j.size (.slice A n.toNat c) (xs.take n.toNat):=by
  rw[r] at hO;exact hO.take (by omega)
 have T:(Value.slice A n.toNat c).ownBlock=(σ k).ownBlock:=by rw[r];cases A<;>rfl
 obtain⟨r1,U,V⟩:=Run.move b w (Am7.refl _ Wa.w) y (.inl T) (λ g X=>(y.2.lt g X).2);refine Ae1 (v:=.slice A n.toNat c) ?_ ⟨.o st.nx,_,_,_,W,_,rfl,by simp[SV.val,upd],r1,Nat.lt_succ_self _,rfl,I,U,V⟩;rw[r] at l;have:=S;simp[execOp,z,l,Instr.sliceAt,Instr.slice,run_underlying E,this,G.sizeOf];intro _;cases A<;>simp[Addr.add]
end
end Go.SX
namespace Go.SX
variable {a:Act}{e t:TypeId}{s x:Operand}
variable {P:Program} {tt:List (Nat×TyI)} {W0:PW} {M:Nat->Prop}
section
variable {st:SS} {W:PW} {o:Oper} {K:SV->SS->PW->Prop}
theorem Ai0.nil (w:World)(e sz:Nat):Ai0 w e sz (.slice none 0 0) []:=⟨by simp,World.ownsRow_nil w 0 e sz⟩
theorem Ai0.lt {w:World}{e sz:Nat}{v:Value}{xs:List (List Value)}(h:Ai0 w e sz v xs): ∀g,v.ownBlock=some g->g<w.heap.size:=λ g b=>(h.2.lt g b).2
theorem Bb8 {w':World}{v':Value}(b:o.op = .call {callee:=.builtin .append,args:=#[s,x],argTypes:=#[t,t] }){w:World}(c:(Builtin.append_ #[t,t] o.type #[a.eval s,a.eval x]).run P w = .ok v' w'):(execOp a.eval o).run P w = .ok (.value v') w':=by
 unfold execOp;simp only[b,resolve,invoke,builtin,Sem.run_bind,Sem.run_pure,Result.andThen_ok,List.map_toArray,List.map_cons,List.map_nil,c]
theorem Dw4 (U:Ac6 P tt){i j:TyI}(F:o.op = .call {callee:=.builtin .append,args:=#[s,x],argTypes:=#[t,t] })(hi:look tt t=some i)(hu:i.und = .slice e)(Y:look tt e=some j)(G:0<j.size)(H:0<j.bytes)(h:Ey2 e j.size x st W λ u=>ev st s λ V=>match V with
       | .n=>(u.length*j.bytes<=140737488355328)/\K (.o st.nx) (Ac4 st (.row e j.size u)) W
       | .o k=>match look st.C k with
        | some (.row t2 X xs)=>match Nat.beq t2 e,Nat.beq X j.size with
         | true,true=>((xs.length+u.length)*j.bytes<=140737488355328)/\K (.o st.nx) (Ac4 (Af0 st k .dead) (.row e j.size (xs ++ u))) W
         | _,_=>False
        | some (.pub (.slice A n c))=>Es7 W0 M e j.size j.bytes ⟨A,n,c⟩ u W λ s' W=>K (.v s'.v) st W
        | _=>False
       | .v (.slice A n c)=>Es7 W0 M e j.size j.bytes ⟨A,n,c⟩ u W λ s' W=>K (.v s'.v) st W
       | _=>False):Az0 P W0 M st W o K:=by
 intro β σ a Wa Q m;obtain⟨_,⟨d,I,Z⟩,_⟩:=U.Aq3 hi;obtain rfl:=Ai6 (Z.trans hu);have J:=U.Aq3 Y;obtain⟨u,aa,h1⟩:=Dd4 h;obtain⟨V,r,h2⟩:=Ac8 (W:=W) aa;have L:=h1 β σ a Wa m.rel m.ext;have he:=(h2 β σ a Wa m.rel m.ext).1;have pub: ∀{A n c},a.eval s = .slice A n c->Es7 W0 M e j.size j.bytes ⟨A,n,c⟩ u W (λ s' W=>K (.v s'.v) st W)->o.wp P a Wa.w (Res W0 M st β σ a o K) Q:=by
  intro A n c hs hA;obtain⟨xs,⟨hO,N⟩,ae,z,B⟩:=hA Wa m.ext;obtain⟨v',w',C,v,q,f⟩:=Dn2 (P:=P) (ty:=o.type) I J G hO L H z;have y:=Bb8 (P:=P) F (a:=a) (w:=Wa.w) (w':=w') (v':=v') (by rw[hs];exact C);have af: ∀g,v'.ownBlock=some g->¬Wa.S g:=by
   intro g l D;rcases f with f | f
   ·exact N g (by rw[<-f];exact l) D
   ·rw[l] at f
    have:=m.lt g D;simp only[Option.some.injEq] at f;omega
  have ag:=Run.world (Wa':=⟨w',Wa.S⟩) m (Ce1 q (By1 _ _ _ y)) (λ _=>Iff.rfl) (λ g e=>⟨N g e,ae g e⟩);obtain⟨s',rfl,ah⟩:=Own.Er0 (W:=⟨w',Wa.S⟩) v af;refine Ae1 y ⟨.v s'.v,β,σ,st,_,_,rfl,rfl,ag,trivial,rfl,B s' _ ⟨q.size,λ b O R D=>⟨q.block b O λ e=>D e.symm,R⟩⟩ ah (λ g l=>?_),Ah1.refl _,Ab2⟩;rcases f with f | f
  ·exact .inl (by rw[<-f];exact l)
  ·rw[l] at f
   simp only[Option.some.injEq] at f;exact .inr (by rw[f];exact Nat.le_refl _)
 split at r
 ·obtain⟨z,B⟩:=r
  obtain⟨v',w',C,v,q,f⟩:=Dn2 (P:=P) (ty:=o.type) I J G (Ai0.nil Wa.w e j.size) L H (by simpa using z);have y:=Bb8 (P:=P) F (a:=a) (w:=Wa.w) (w':=w') (v':=v') (by rw[he];exact C);have ai: ∀g,v'.ownBlock=some g->g=Wa.w.heap.size:=by
   intro g l;rcases f with f | f
   ·rw[l] at f;simp[Value.ownBlock] at f
   ·rw[l] at f;exact Option.some.inj f
  simp only[List.nil_append] at v;obtain⟨r1,S,T⟩:=Run.new (Wa':=⟨w',λ b=>Wa.S b\/v'.ownBlock=some b⟩) (bl:=.row e j.size u) (b':=0) (v':=v') m ⟨q.os,q.tape,q.output,q.size,λ b z _=>q.block b z (by simp[Value.ownBlock]),By1 _ _ _ y⟩
   (λ b=>by simp[Ab8,upd]) ⟨by simpa[upd] using v,λ g l=>.inr (by simpa[upd] using l)⟩
   (λ g l=>by
    have l:v'.ownBlock=some g:=by simpa[Ab8,upd] using l
    have:=ai g l;exact⟨by omega,v.lt g l⟩)
  exact Ae1 y ⟨.o st.nx,_,_,_,W,_,rfl,by simp[SV.val,upd],r1,Nat.lt_succ_self _,rfl,B,S,T⟩
 ·rename_i k
  split at r
  ·rename_i t2 X xs E
   split at r
   ·rename_i O R
    obtain rfl:=Nat.eq_of_beq_eq_true O;obtain rfl:=Nat.eq_of_beq_eq_true R;obtain⟨z,B⟩:=r;obtain⟨hO,N⟩:=m.rel.C _ _ E;obtain⟨v',w',C,v,q,f⟩:=Dn2 (P:=P) (ty:=o.type) I J G hO L H z;have y:=Bb8 (P:=P) F (a:=a) (w:=Wa.w) (w':=w') (v':=v') (by rw[he];exact C);obtain⟨r1,S,T⟩:=Run.move m E (Ce1 q (By1 _ _ _ y)) v f v.lt;exact Ae1 y ⟨.o st.nx,_,_,_,W,_,rfl,by simp[SV.val,upd],r1,Nat.lt_succ_self _,rfl,B,S,T⟩
   ·exact r.elim
  ·rename_i A n c E
   exact pub (by rw[he];exact m.rel.C _ _ E) r
  ·exact r.elim
 ·exact pub he r
 ·exact r.elim
theorem Df3 {s:Shp}{K:Value->Prop}(h:Em0 s K){v:Value}(b:Ff6 s v=true):K v:=by
 cases s<;>cases v<;>simp only[Ff6,Bool.false_eq_true] at b<;>first | exact h _ | (obtain rfl:=of_decide_eq_true b;exact h _) | exact h ⟨_,_,_⟩
theorem Am9: ∀{l:List Shp} {K:List Value->Prop} (_:Ax9 l K) {vs:List Value} (_:Ai7 l vs=true),K vs
 | [],K,h,[],_=>h
 | [],K,h,_ :: _,b=>by simp[Ai7] at b
 | s::r,K,h,[],b=>by simp[Ai7] at b
 | s::r,K,h,v::vs,b=>by
  simp only[Ai7,Bool.and_eq_true] at b;exact Am9 (l:=r) (Df3 h b.1) b.2
theorem Ey4 {W:PW}{sz:Nat}{s:Sl}{b:List (List Value)}(h:Row W t sz s b)(n:Nat):(∀x∈b.take n,x.length=sz/\∀u∈x,u.oneCell'=true)/\(b.take n).flatten.length=Nat.min s.n n*sz:=by
 have d: ∀x∈b.take n,x.length=sz/\∀u∈x,u.oneCell'=true:=λ x c=>h.2.2.2.1 x (List.mem_of_mem_take c);refine⟨d,?_⟩;rw[Ac0 λ x c=>(d x c).1,List.length_take,h.1];show min n b.length*sz=min b.length n*sz;rw[Nat.min_comm]
theorem Et7 {J:TypeId}{d:Operand}(D:Ac6 P tt){i j:TyI}(L:o.op = .call {callee:=.builtin .copy,args:=#[d,x],argTypes:=#[t,J] })(hi:look tt t=some i)(hu:i.und = .slice e)(N:look tt e=some j){k n m c:Nat}{A:Option Addr}{cs:List Value}{f:List (List Value)}(O:Bo3 st W λ β σ a _=>a.eval d=SV.val β σ (.bs k n)/\Az7 st.nx β σ (.bs k n))(R:Bo3 st W λ _ _ a _=>a.eval x = .slice A m c)(E:look st.C k=some (.box cs))(z:n*j.size<=cs.length)(r:Bf9 W j.size ⟨A,m,c⟩ f)(S:Ai7 (cs.map Eq0) (Aj6 cs 0 (f.take n).flatten)=true)(h:Ax9 (cs.map Eq0) λ l=>l=Aj6 cs 0 (f.take n).flatten->K (.v (.int .i64 ((Nat.min m n:Nat):Int))) (Af0 st k (.box l)) W):Az0 P W0 M st W o K:=by
 intro β σ a Wa Q w;obtain⟨_,⟨dd,T,U⟩,_⟩:=D.Aq3 hi;obtain rfl:=Ai6 (U.trans hu);have V:=Am9 h S rfl;obtain⟨⟨F,G⟩,X⟩:=w.rel.C _ _ E;have Y:=(O β σ a Wa w.rel w.ext).1;have hex:=R β σ a Wa w.rel w.ext;obtain⟨t2,r⟩:=r;have r:=r.ext w.ext;obtain⟨Z,hlen⟩:=Ey4 r n;have aa: ∀u∈(f.take n).flatten,u.oneCell'=true:=by
  intro u hu;obtain⟨y,hy,hu⟩:=List.mem_flatten.1 hu;exact(Z y hy).2 u hu
 have hle:(f.take n).flatten.length<=cs.length:=by
  rw[hlen];exact Nat.le_trans (Nat.mul_le_mul_right _ (Nat.min_le_right _ _)) z
 have B:=run_storeCells_at P (β k) 0 F (f.take n).flatten 0 cs.toArray Wa.w G (by simpa using hle) aa;simp only[Nat.zero_add] at B;rw[show cs.toArray.toList.take 0 ++ (f.take n).flatten ++ cs.toArray.toList.drop (f.take n).flatten.length=Aj6 cs 0 (f.take n).flatten by rw[Al5 _ _ _ (by omega)];simp] at B;have ac:(Builtin.firstCells j.size (Nat.min m n) (.slice A m c)).run P Wa.w = .ok (f.take n).flatten.toArray Wa.w:=by
  have ad:(f.take n).flatten.length=Nat.min m n*j.size:=hlen;rcases r.2.2.2.2 with H | ⟨g,q,cur,fz,hA,_,af,ag⟩
  ·have hm:m=0:=by have:=r.1;rw[H] at this;exact this
   subst hm H;have ah: ∀(x:Addr),(loadCells x 0).run P Wa.w = .ok #[] Wa.w:=λ x=>by simpa using run_loadCells_list (P:=P) Wa.w x [] (by simp)
   cases A<;>simp[Builtin.firstCells,ah]
  ·have ai:A=some ⟨g,q,none⟩:=hA
   subst ai;simp only[Builtin.firstCells];rw[<-ad];refine run_loadCells_list (P:=P) Wa.w ⟨g,q,none⟩ (f.take n).flatten λ i v I=>?_;rw[Addr.add_lit];have hc:=ag i v ?_
   ·simpa[World.cell?,af] using hc
   ·rw[<-List.take_append_drop n f,List.flatten_append,List.getElem?_append_left]
    ·exact I
    ·exact(List.getElem?_eq_some_iff.1 I).1
 have ak:(execOp a.eval o).run P Wa.w = .ok (.value (.int .i64 ((Nat.min m n:Nat):Int))) (Wa.w.setRow (β k) (Aj6 cs 0 (f.take n).flatten).toArray):=by
  unfold execOp;simp only[L,resolve,invoke,builtin,Sem.run_bind,Sem.run_pure,Result.andThen_ok,List.map_toArray,List.map_cons,List.map_nil,Y,hex,SV.val];simp[Builtin.copy_,run_underlying T,Builtin.lenOf,(D.Aq3 N).sizeOf,ac,B,goInt]
 obtain⟨h2,h3⟩:=Run.set (Wa':=⟨Wa.w.setRow (β k) (Aj6 cs 0 (f.take n).flatten).toArray,Wa.S⟩) (bl:=.box (Aj6 cs 0 (f.take n).flatten)) w E
  ⟨rfl,rfl,rfl,by simp,λ b _ z=>setRow_other _ _ _ _ (λ he=>z (by simp[Ab8,he])),Nat.le_refl _⟩ (λ b C=>C) (λ b C _=>C)
  ⟨⟨F,setRow_heap _ _ _ _ _ _ G⟩,X⟩ (λ g hg=>by simpa[Ab8] using hg)
 exact Ae1 ak ⟨.v (.int .i64 ((Nat.min m n:Nat):Int)),β,σ,_,W,_,rfl,rfl,h2,trivial,rfl,V,h3,Ab2⟩
theorem Aw7 {w:World}{next next':Act->World->Prop}{Q:Exit->Act->World->Prop}(h:o.wp P a w next Q)(b: ∀a' w',next a' w'->next' a' w'):o.wp P a w next' Q:=by
 unfold Oper.wp at h⊢;generalize (execOp a.eval o).run P w=r at h;unfold Oper.upon at h⊢;split at h
 ·exact b _ _ h
 ·exact b _ _ h
 ·exact b _ _ h
 ·refine Calls.mono h ?_
  intro e d he
  cases e with
  | returned v=>exact b _ _ he
  | panicked c=>exact he
  | outgrown=>exact he
 ·exact Rows.mono h λ v d h=>b _ _ h
 ·exact h
 ·exact h.elim
theorem Iz8 {f:FuncId}{first:Array Operand}{captured:Array Operand}(b:o.op = .makeFunc (.func f) first captured)(c:first.toList = [])(h:Fh7 W0 captured.toList st W λ m st W=>K (.v (.func (.func f) #[] m.toArray)) st W):Az0 P W0 M st W o K:=by
 intro β σ a Wa Q d;obtain⟨vs,st1,g,i,j,he,hw,l,n,q⟩:=Bh0 h d;obtain rfl:first = #[]:=Array.toList_eq_nil_iff.1 c;have r:captured.map a.eval=vs.toArray:=by
  apply Array.ext';simp[<-he]
 refine Ae1 (v:=.func (.func f) #[] vs.toArray) ?_ ⟨.v (.func (.func f) #[] vs.toArray),β,σ,st1,g,i,hw,rfl,l,trivial,n,j,q,Ab2⟩;simp[execOp,b,Instr.makeFunc,r]
theorem bool_and {b:Bool}{a:Bool}(h:(a && b)=true):a=true/\b=true:=by simpa using h
theorem Cs1 (w:Ac6 P tt)(hF:Ae7 tt)(h:Ci6 P tt W0 M o st W K):Az0 P W0 M st W o K:=by
 unfold Ci6 at h;split at h
 ·rename_i t q
  split at h
  ·rename_i i hi
   exact Ef5 w q hi h
  ·exact h.elim
 ·rename_i t x q
  exact Fg1 q h
 ·rename_i t parts q
  split at h
  ·rename_i i hi
   split at h
   ·rename_i ae
    exact Ep5 w hF q hi ae h
   ·exact h.elim
  ·exact h.elim
 ·rename_i t len parts q
  split at h
  ·rename_i i hi
   split at h
   ·rename_i e hu
    split at h
    ·rename_i j C
     split at h
     ·rename_i F z
      obtain⟨z,I⟩:=bool_and z;exact Ca0 w q hi hu C (Nat.le_of_ble_eq_true F) (Nat.le_of_ble_eq_true z) I h
     ·exact h.elim
    ·exact h.elim
   ·exact h.elim
  ·exact h.elim
 ·rename_i t l c q
  split at h
  ·rename_i i hi
   split at h
   ·rename_i e hu
    split at h
    ·rename_i j C
     split at h
     ·rename_i G
      obtain⟨G,I⟩:=bool_and G;obtain⟨F,z⟩:=bool_and G;exact Co1 w q hi hu C (Nat.le_of_ble_eq_true F) (Nat.le_of_ble_eq_true z) I h
     ·exact h.elim
    ·exact h.elim
   ·exact h.elim
  ·exact h.elim
 ·rename_i t p x q
  split at h
  ·rename_i i hi
   intro β σ a Wa Q D;obtain⟨v,st1,W1,Z,T,he,hw,H,ag,ah⟩:=Ah3 h D;split at T
   ·rename_i F z
    have J:=Nat.eq_of_beq_eq_true F;obtain⟨s,b,h1⟩:=Ac8 (W:=W1) T;obtain⟨U,ar⟩:=h1 β σ a Z H.rel H.ext;rw[<-hw];have lift:o.wp P a Z.w (Res W0 M st1 β σ a o K) Q->o.wp P a Z.w (Res W0 M st β σ a o K) Q:=λ h=>Aw7 h λ _ _ h=>Res.of ag ah h;refine lift ?_;split at b
    ·rename_i k off
     split at b
     ·rename_i cs B
      split at b
      ·rename_i hle
       exact Bl2 w q hi J z B (Nat.le_of_ble_eq_true hle) H he U b
      ·exact b.elim
     ·exact b.elim
    ·rename_i k sz ix off
     split at b
     ·rename_i X au xs B
      split at b
      ·rename_i I aa
       obtain rfl:=Nat.eq_of_beq_eq_true I;have hle:off+i.size<=sz:=Nat.le_of_ble_eq_true aa;have L:=(H.rel.C _ _ B).1.1;have ac:=Bd5 z;split at b
       ·rename_i aj
        have ad:=Nat.eq_of_beq_eq_true aj;obtain⟨S,b⟩:=b;have ak:off=0:=by omega
        subst ak;refine Bk4 w q hi J z B hle S (by rw[Nat.add_zero];exact Ap5 (λ x E=>(L x E).1) S (J.trans ad)) (by simp) ?_ H he U b;intro x E;rcases List.mem_or_eq_of_mem_set E with E | rfl
        ·exact L x E
        ·exact⟨J.trans ad,ac⟩
       ·obtain⟨S,b⟩:=b
        obtain⟨f1,f2⟩:=Co0 (λ x E=>(L x E).1) S (l:=Ac7 v) (off:=off) (by omega);refine Bk4 w q hi J z B hle S f1 (by simp[Ci8]) ?_ H he U b;intro x E;have hm:=Ds3 S;rcases List.mem_or_eq_of_mem_set E with E | rfl
        ·exact L x E
        ·refine⟨f2 (L _ hm).1,λ u hu=>?_⟩
         simp only[patch,List.mem_append] at hu;rcases hu with(hu | hu) | hu
         ·exact(L _ hm).2 u (List.mem_of_mem_take hu)
         ·exact ac u hu
         ·exact(L _ hm).2 u (List.mem_of_mem_drop hu)
      ·exact b.elim
     ·exact b.elim
    ·exact Cv1 w q hi J z H he U b
    ·rename_i k base sz len ix off
     split at b
     ·rename_i cs B
      split at b
      ·rename_i I aa
       exact Dj8 w q hi J z B (Nat.le_of_ble_eq_true I) (Nat.le_of_ble_eq_true aa) H he U b
      ·exact b.elim
     ·exact b.elim
    ·exact b.elim
   ·exact T.elim
  ·exact h.elim
 ·rename_i f args Y q
  intro β σ a Wa Q D;obtain⟨s,b,h1⟩:=Ac8 (W:=W) h;have he:=(h1 β σ a Wa D.rel D.ext).1;split at b
  ·exact Ez2 q D he b
  ·exact b.elim
 ·rename_i args Y q
  split at h
  ·rename_i s x t X N O
   have N:args = #[s,x]:=by apply Array.ext';simpa using N
   have O:Y = #[t,X]:=by apply Array.ext';simpa using O
   subst N;subst O;split at h
   ·rename_i i G hi
    obtain rfl:=Nat.eq_of_beq_eq_true G;split at h
    ·rename_i e hu
     split at h
     ·rename_i j C
      split at h
      ·rename_i G
       obtain⟨F,z⟩:=bool_and G;exact Dw4 w q hi hu C (Nat.le_of_ble_eq_true F) (Nat.le_of_ble_eq_true z) h
      ·exact h.elim
     ·exact h.elim
    ·exact h.elim
   ·exact h.elim
  ·exact h.elim
 ·rename_i args Y q
  split at h
  ·rename_i d x t X N O
   have N:args = #[d,x]:=by apply Array.ext';simpa using N
   have O:Y = #[t,X]:=by apply Array.ext';simpa using O
   subst N;subst O;split at h
   ·rename_i i hi
    split at h
    ·rename_i e hu
     split at h
     ·rename_i j C
      obtain⟨ds,ab,h1⟩:=Ac8 (W:=W) h;split at ab
      ·rename_i k n
       obtain⟨v,R,h2⟩:=Ad5 (W:=W) ab;split at R
       ·rename_i A m c
        split at R
        ·rename_i cs B
         split at R
         ·rename_i G
          obtain⟨ys,hr,an,T⟩:=R;exact Et7 w q hi hu C h1 h2 B (Nat.le_of_ble_eq_true G) hr an T
         ·exact R.elim
        ·exact R.elim
       ·exact R.elim
      ·exact ab.elim
     ·exact h.elim
    ·exact h.elim
   ·exact h.elim
  ·exact h.elim
 ·rename_i t q
  split at h
  ·split at h
   ·exact De7 q h
   ·exact h.elim
  ·exact h.elim
 ·rename_i t x k q
  split at h
  ·rename_i i hi
   split at h
   ·rename_i kt et hu
    split at h
    ·rename_i j C
     exact Dv3 w q hi hu C h
    ·exact h.elim
   ·exact h.elim
  ·exact h.elim
 ·rename_i t x k y q
  split at h
  ·rename_i i hi
   split at h
   ·rename_i kt et hu
    exact Cg2 w q hi hu h
   ·exact h.elim
  ·exact h.elim
 ·rename_i t x q
  split at h
  ·rename_i i hi
   split at h
   ·rename_i kt et hu
    exact Ef4 w q hi hu h
   ·exact h.elim
  ·exact h.elim
 ·rename_i x q
  obtain⟨s,b,h1⟩:=Ac8 (W:=W) h;split at b
  ·rename_i k
   split at b
   ·rename_i g kt et since seen last cur B
    exact Ex2 q (λ β σ a Wa D V=>(h1 β σ a Wa D V).1) B b
   ·exact b.elim
  ·exact b.elim
 ·rename_i x q
  obtain⟨s,b,h1⟩:=Ac8 (W:=W) h;split at b
  ·rename_i k
   split at b
   ·rename_i g kt et since seen last e B
    exact El1 q (λ β σ a Wa D V=>(h1 β σ a Wa D V).1) B b.1 b.2
   ·exact b.elim
  ·exact b.elim
 ·rename_i t x hi q
  obtain⟨s,b,h1⟩:=Ac8 (W:=W) h;split at b
  ·rename_i k
   split at b
   ·rename_i t2 sz xs B
    split at b
    ·rename_i i ao
     split at b
     ·rename_i e hu
      split at b
      ·rename_i j C
       split at b
       ·rename_i F z
        obtain rfl:=Nat.eq_of_beq_eq_true F;exact Ff4 w q (λ β σ a Wa D V=>(h1 β σ a Wa D V).1) B ao hu C (Nat.eq_of_beq_eq_true z) b
       ·exact b.elim
      ·exact b.elim
     ·exact b.elim
    ·exact b.elim
   ·exact Ek0 w hF b
  ·exact Ek0 w hF b
 ·rename_i f first captured q
  split at h
  ·exact Ek0 w hF h
  ·rename_i x r ap
   split at h
   ·rename_i aq
    rw[<-ap] at h;exact Iz8 q aq h
   ·exact h.elim
 ·exact Ek0 w hF h
end
end Go.SX
namespace Go.SX
variable {a:Act}{o og:Oper}{ops:Array Oper}{s:SV}{st:SS}{want:Bool}
variable {P:Program} {tt:List (Nat×TyI)} {W0:PW} {M:Nat->Prop}
def Out (W0:PW) (M:Nat->Prop) (b:SS) (c:Nat->Nat) (d:Nat->Value) (a0:Act) (f:List Nat) (K:SS->PW->Prop) (a:Act) (w:World):Prop:=
 ∃β σ st W Wa,Wa.w=w/\Run W0 M st W β σ a Wa/\K st W/\Ah1 b st/\(∀k,k<b.nx->β k=c k/\σ k=d k)/\∀i,¬i∈f->a.tmps.getD i undef=a0.tmps.getD i undef
theorem Out.of {b:SS}{st1:SS}{a0:Act}{f:Act}{g j:Nat->Nat}{l m:Nat->Value}{c ds1 n:List Nat}{K q:SS->PW->Prop}{w:World}(d:Ah1 b st1)(r: ∀k,k<b.nx->j k=g k/\m k=l k)(v: ∀i,¬i∈ds1->f.tmps.getD i undef=a0.tmps.getD i undef)(h1: ∀i,i∈ds1->i∈c)(y: ∀i,i∈n->i∈c)(z: ∀st W,K st W->q st W)(h:Out W0 M st1 j m f n K a w):Out W0 M b g l a0 c q a w:=by
 obtain⟨β,σ,st,W,Wa,hw,A,hk,B,u,C⟩:=h;exact⟨β,σ,st,W,Wa,hw,A,z _ _ hk,d.trans B,λ k hk=>⟨(u k (Nat.lt_of_lt_of_le hk d.nx)).1.trans (r k hk).1,(u k (Nat.lt_of_lt_of_le hk d.nx)).2.trans (r k hk).2⟩,
  λ i hi=>(C i λ h=>hi (y i h)).trans (v i λ h=>hi (h1 i h))⟩
theorem As6 (a:Act)(d:Nat)(v:Value)(i:Nat):(a.put (some d) v).tmps.getD i undef=if i=d/\d<a.tmps.size then v else a.tmps.getD i undef:=by
 simp only[Act.put,Array.getD_eq_getD_getElem?,Array.getElem?_setIfInBounds]
 by_cases h:d=i
 ·subst h
  by_cases b:d<a.tmps.size
  ·simp[b]
  ·simp[b]
 ·simp[h,show ¬i=d from λ e=>h e.symm]
theorem Run.Fk3 {W Wa:PW}{β:Nat->Nat}{σ:Nat->Value}{d:Nat}(h:Run W0 M st W β σ a Wa)(b:d<st.n)(c:Az7 st.nx β σ s){v:Value}(f:v=s.val β σ):
  Run W0 M {st with T:=(d,s)::st.T } W β σ (a.put (some d) v) Wa:=by
 refine⟨⟨h.rel.defers,by simp[Act.put,h.rel.size],λ i s' hi=>?_,h.rel.C,h.rel.inj,λ i s' hi=>?_⟩,h.ext,h.Ai1,h.priv,h.lt,h.s0,h.b0,h.nC,h.fresh⟩
 ·rw[As6]
  simp only[Ab4] at hi;split at hi
  ·rename_i he
   subst he;obtain rfl:=Option.some.inj hi;rw[if_pos ⟨rfl,by rw[h.rel.size];exact b⟩];exact⟨f,c⟩
  ·rename_i g
   rw[if_neg λ e=>g e.1.symm];exact h.rel.T i s' hi
 ·simp only[Ab4] at hi
  split at hi
  ·rename_i he;subst he;exact b
  ·exact h.rel.dom i s' hi
theorem Ct7 (st:SS)(T:List (Nat×SV)):Ah1 st {st with T:=T }:=⟨Nat.le_refl _,rfl,[],rfl,λ _ _ _=>rfl⟩
theorem Bz1 {l:Bool}{f:SS->Prop}(h:fin l o s st f){W Wa:PW}{β:Nat->Nat}{σ:Nat->Value}(b:Run W0 M st W β σ a Wa)(m:Az7 st.nx β σ s):
  ∃st',f st'/\Run W0 M st' W β σ (a.put o.dst (s.val β σ)) Wa/\Ah1 st st'/\∀i,¬i∈Av0 o->(a.put o.dst (s.val β σ)).tmps.getD i undef=a.tmps.getD i undef:=by
 unfold fin at h
 cases c:o.dst with
 | none=>
  rw[c] at h;exact⟨st,h,b,Ah1.refl _,λ _ _=>rfl⟩
 | some d=>
  rw[c] at h;simp only at h;have g: ∀v i,¬i∈Av0 o->(a.put (some d) v).tmps.getD i undef=a.tmps.getD i undef:=by
   intro v i hi;rw[As6,if_neg];rintro⟨rfl,_⟩;exact hi (by simp[Av0,c])
  split at h
  ·rename_i n
   have j:d<st.n:=Nat.le_of_ble_eq_true n;split at h
   ·obtain⟨t,q,r⟩:=As5 h
    exact⟨_,q,b.Fk3 (s:=.b t) j trivial (r β σ),Ct7 _ _,λ i hi=>g _ i hi⟩
   ·exact⟨_,h,b.Fk3 j m rfl,Ct7 _ _,λ i hi=>g _ i hi⟩
  ·exact h.elim
theorem Bp5 {b:Bool}{j:Nat}{d:Nat}(g:o.guard=some (j,want))(h:ops.toList[j]?=some og)(i:og.dst=some d)(c:d<a.tmps.size)(f:a.tmps.getD d undef = .bool b):
  Region.wanted o (yielded ops a.tmps)=(b == want):=by
 have l:ops[j]?=some og:=by simpa using h
 have m:a.tmps[d]?=some (.bool b):=by
  rw[Array.getD_eq_getD_getElem?,Array.getElem?_eq_getElem c] at f;rw[Array.getElem?_eq_getElem c]
  simpa using f
 simp only[Region.wanted,g,yielded,l,Option.bind_some,i,m];cases b<;>cases want<;>rfl
theorem Bv3 {l:Array Value}{j:Nat}{d:Nat}(c:o.guard=some (j,want))(f:ops.toList[j]?=some og)(g:og.dst=some d)(b:a.tmps.getD d undef = .tuple l):
  Region.wanted o (yielded ops a.tmps)=false:=by
 have i:ops[j]?=some og:=by simpa using f
 have m:yielded ops a.tmps j=none:=by
  simp only[yielded,i,Option.bind_some,g];rw[Array.getD_eq_getD_getElem?] at b
  cases h:a.tmps[d]? with
  | none=>rfl
  | some x=>rw[h] at b;simp only[Option.getD_some] at b;subst b;rfl
 simp only[Region.wanted,c,m];rfl
theorem Dx7 (y:Ac6 P tt)(hF:Ae7 tt){i:Nat}(z:ops[i]?=some o){W:PW}{K:SS->PW->Prop}(h:Fi7 P tt W0 M ops.toList i o st W K){β:Nat->Nat}{σ:Nat->Value}{Wa:PW}(c:Run W0 M st W β σ a Wa){Q:Exit->Act->World->Prop}{rest:List Nat}(u: ∀a' w',Out W0 M st β σ a (Av0 o) K a' w'->wpOps P ops Q rest a' w'):wpOps P ops Q (i::rest) a Wa.w:=by
 simp only[wpOps,z];have run:Ci6 P tt W0 M o st W (λ s st W=>fin (guards ops.toList i) o s st λ st=>K st W)->o.wp P a Wa.w (wpOps P ops Q rest) Q:=by
  intro h;refine Aw7 (Cs1 y hF h β σ a Wa Q c) ?_;rintro a' w' ⟨s,A,B,st',W',Wa',hw,rfl,C,D,J,E,F,G⟩;obtain⟨st2,f,g,m,n⟩:=Bz1 E C D;exact u _ _ ⟨A,B,st2,W',Wa',hw,g,f,F.trans m,G,n⟩
 unfold Fi7 at h;split at h
 ·rename_i q
  have hw:Region.wanted o (yielded ops a.tmps)=true:=by simp[Region.wanted,q]
  rw[if_pos hw];exact .inl (run h)
 ·rename_i j want q
  split at h
  ·rename_i og v
   split at h
   ·rename_i d w
    split at h
    ·rename_i b r
     obtain⟨H,_⟩:=c.rel.T _ _ r;have I:d<a.tmps.size:=by rw[c.rel.size];exact c.rel.dom _ _ r
     have hw:=Bp5 q v w I H;split at h
     ·rename_i he
      rw[if_pos (hw.trans he)];exact .inl (run h)
     ·rename_i he
      rw[if_neg (by rw[hw,he];simp)];obtain⟨st2,f,g,m,n⟩:=Bz1 h c (s:=.v undef) trivial;exact u _ _ ⟨β,σ,st2,W,Wa,rfl,g,f,m,Ab2,n⟩
    ·rename_i l r
     rw[if_neg (by rw[Bv3 q v w (c.rel.T _ _ r).1];simp)];obtain⟨st2,f,g,m,n⟩:=Bz1 h c (s:=.v undef) trivial;exact u _ _ ⟨β,σ,st2,W,Wa,rfl,g,f,m,Ab2,n⟩
    ·exact h.elim
   ·exact h.elim
  ·exact h.elim
theorem Bq6 (g:Ac6 P tt)(hF:Ae7 tt){ops:Array Oper}{Q:Exit->Act->World->Prop}: ∀(l:List Oper) (i:Nat) {st:SS} {W:PW} {K:SS->PW->Prop} (_:ops.toList.drop i=l) (_:Ff8 P tt W0 M ops.toList i l st W K)
  {β:Nat->Nat} {σ:Nat->Value} {a:Act} {Wa:PW} (_:Run W0 M st W β σ a Wa) (_: ∀a' w',Out W0 M st β σ a (l.flatMap Av0) K a' w'->Q .normal a' w'),wpOps P ops Q (List.range' i l.length) a Wa.w
 | [],i,st,W,K,_,h,β,σ,a,Wa,d,f=>f _ _ ⟨β,σ,st,W,Wa,rfl,d,h,Ah1.refl _,Ab2,λ _ _=>rfl⟩
 | o::r,i,st,W,K,b,h,β,σ,a,Wa,d,f=>by
  have c:i<ops.toList.length:=by
   rcases Nat.lt_or_ge i ops.toList.length with h | h
   ·exact h
   ·rw[List.drop_of_length_le h] at b;cases b
  have j:ops[i]?=some o:=by
   rw[List.drop_eq_getElem_cons c] at b;have:=(List.cons.inj b).1;rw[<-this];simp at c;simp[c]
  have m:ops.toList.drop (i+1)=r:=by
   rw[List.drop_eq_getElem_cons c] at b;exact(List.cons.inj b).2
  rw[List.length_cons,List.range'_succ];refine Dx7 g hF j h d ?_;rintro a' w' ⟨A,B,st1,C,D,rfl,n,q,u,v,w⟩;refine Bq6 g hF r (i+1) m q n λ a2 E hO=>f _ _ ?_;exact Out.of u v w (λ i hi=>List.mem_flatMap.2 ⟨o,by simp,hi⟩) (λ i hi=>by
   obtain⟨o',y,z⟩:=List.mem_flatMap.1 hi;exact List.mem_flatMap.2 ⟨o',by simp[y],z⟩) (λ _ _ h=>h) hO
end Go.SX
namespace Go.SX
variable {a:Act}{st:SS}
variable {P:Program} {tt:List (Nat×TyI)} {W0:PW} {M:Nat->Prop}
def Dq9 (st:SS) (β:Nat->Nat) (σ:Nat->Value) (Wa:PW) (st':SS) (b:Nat->Nat) (c:Nat->Value) (Wa':PW):Prop:=
 ∀g,Wa.S g->Ax6 st β σ g->Wa'.S g/\Wa'.w.heap[g]?=Wa.w.heap[g]?/\Ax6 st' b c g
theorem Dq9.refl {β:Nat->Nat}{σ:Nat->Value}{Wa:PW}:Dq9 st β σ Wa st β σ Wa:=λ g h1 b=>⟨h1,rfl,b⟩
theorem Dq9.w {st':SS}{β:Nat->Nat}{σ:Nat->Value}{Wa Wa':PW}(hw:Wa'.w=Wa.w)(h: ∀g,Ax6 st β σ g->Wa.S g->Ax6 st' β σ g/\Wa'.S g):Dq9 st β σ Wa st' β σ Wa':=λ g h1 b=>⟨(h g b h1).2,by rw[hw],(h g b h1).1⟩
theorem Dq9.C {st1:SS}{st2:SS}{β b:Nat->Nat}{σ c:Nat->Value}{Wa d:PW}(h:Dq9 st β σ Wa st1 b c d)(f:st2.C=st1.C):Dq9 st β σ Wa st2 b c d:=λ g h1 i=>
 let⟨j,a2,a3⟩:=h g h1 i
 ⟨j,a2,λ k bl hk=>a3 k bl (f ▸ hk)⟩
def Ft0 (W0:PW) (M:Nat->Prop) (st:SS) (β:Nat->Nat) (σ:Nat->Value) (a:Act) (Wa:PW) (o:Oper) (K:SV->SS->PW->Prop) (a':Act) (w':World):Prop:=
 ∃s b c st' W' Wa',Wa'.w=w'/\a'=a.put o.dst (s.val b c)/\Run W0 M st' W' b c a Wa'/\Az7 st'.nx b c s/\st'.T=st.T/\K s st' W'/\Ah1 st st'/\(∀k,k<st.nx->b k=β k/\c k=σ k)/\Dq9 st β σ Wa st' b c Wa'
theorem Ds1 {bl:Blk}{v':Value}{W Wa:PW}{β:Nat->Nat}{σ:Nat->Value}(c:Run W0 M st W β σ a Wa){b':Nat}{g:Nat}(h:Ax6 st β σ g)(d:Ab8 (upd β st.nx b') (upd σ st.nx v') st.nx bl≠some g):
  Ax6 (Ac4 st bl) (upd β st.nx b') (upd σ st.nx v') g:=λ k bl' b=>by
 simp only[Ac4,Ab4] at b;split at b
 ·rename_i he
  subst he;obtain rfl:=Option.some.inj b;exact d
 ·have f:=c.nC _ _ b
  rw[Ad7 (n:=st.nx) (λ k hk=>⟨by unfold upd;rw[if_neg (by omega)],by unfold upd;rw[if_neg (by omega)]⟩) f];exact h k bl' b
theorem Bf3 (w:World)(ob:Obj){g:Nat}(h:g<w.heap.size):(w.alloc ob).heap[g]?=w.heap[g]?:=heap_alloc_old w ob h
theorem Ed2 {o:Oper}(w:Ac6 P tt)(hF:Ae7 tt){W:PW}{K:SV->SS->PW->Prop}(d:Fg8 o.op=true)(h:Ci6 P tt W0 M o st W K){β:Nat->Nat}{σ:Nat->Value}{Wa:PW}{Q:Exit->Act->World->Prop}(j:Run W0 M st W β σ a Wa):o.wp P a Wa.w (Ft0 W0 M st β σ a Wa o K) Q:=by
 have flat:fl tt st W o.op (λ s=>K s st W)->o.wp P a Wa.w (Ft0 W0 M st β σ a Wa o K) Q:=by
  intro h;obtain⟨s,n,m⟩:=Bo1 w hF (P:=P) h;exact Ae1 (m β σ a Wa j.rel j.ext).1 ⟨s,β,σ,st,W,Wa,rfl,rfl,j,(m β σ a Wa j.rel j.ext).2,rfl,n,Ah1.refl _,Ab2,Dq9.refl⟩
 unfold Ci6 at h;split at h
 ·rename_i t c
  split at h
  ·rename_i i hi
   have J:=w.Aq3 hi;obtain⟨h1,y,L⟩:=Di7 j i.zv.cells.toList t;refine Ae1 (v:=.pointer (some ⟨Wa.w.heap.size,0,none⟩)) ?_ ⟨.p st.nx 0,_,_,_,W,_,rfl,?_,h1,Nat.lt_succ_self _,rfl,h,y,L,λ g g1 g2=>⟨.inl g1,?_,Ds1 j g2 ?_⟩⟩
   ·simp[execOp,c,Instr.alloc,J.zero,newVar,newRow]
   ·simp[SV.val,upd]
   ·exact Bf3 _ _ (j.lt g g1)
   ·simp only[Ab8,upd,if_true,ne_eq,Option.some.injEq]
    have:=j.lt g g1;omega
  ·exact h.elim
 ·rename_i c;rw[c] at d;cases d
 ·rename_i t parts c
  split at h
  ·rename_i i hi
   split at h
   ·rename_i O
    obtain⟨vs,st1,z,l,n,he,hw,q,A,B,C⟩:=Bb3 h j;obtain⟨cs,R,h1⟩:=Ba6 (W:=z) w hF hi O n;refine Ae1 (v:=.agg cs.toArray) ?_ ⟨.v (.agg cs.toArray),β,σ,st1,z,l,hw,rfl,q,trivial,A,R,B,Ab2,Dq9.w hw C⟩;have u:(Instr.build t (parts.map λ(i,x)=>(i,a.eval x))).run P l.w = .ok (.agg cs.toArray) l.w:=h1 β σ a l q.rel q.ext;rw[hw] at u;simp[execOp,c,u]
   ·exact h.elim
  ·exact h.elim
 ·rename_i c;rw[c] at d;cases d
 ·rename_i c;rw[c] at d;cases d
 ·rename_i c;rw[c] at d;cases d
 ·rename_i f args ab c
  obtain⟨s,m,h1⟩:=Ac8 (W:=W) h;have D:=(h1 β σ a Wa j.rel j.ext).1;split at m
  ·rename_i g first captured
   obtain⟨vs,st1,z,l,n,he,hw,q,A,B,C⟩:=Bb3 m j;obtain⟨N,ac,⟨⟨fn,S,ad,T⟩,U⟩,F,n⟩:=n l q.ext;have u:fn.body.isNone=false:=by cases ae:fn.body<;>simp_all
   have V:(first ++ args.map a.eval ++ captured)=(first.toList ++ vs ++ captured.toList).toArray:=by
    apply Array.ext';simp[<-he]
   have D:a.eval f = .func (.func g) first captured:=D;have X:(execOp a.eval o).run P Wa.w = .ok (.enter g (first.toList ++ vs ++ captured.toList).toArray) Wa.w:=by
    simp only[execOp,c,resolve,D,Deferred.ofValue,Sem.run_bind,Sem.run_pure,Result.andThen_ok,invoke,callFunc,run_program,S,T,u,V];rfl
   unfold Oper.wp;rw[X];simp only[Oper.upon];have G:=U q.lt;rw[hw] at G;refine Calls.mono G ?_;rintro e H ⟨v,rfl,hk,Y⟩;have y:=Run.world (Wa':=⟨H,l.S⟩) q (by rw[hw];exact hk) (λ _=>Iff.rfl) F;have Z:Au9 N l ⟨H,l.S⟩:=⟨by rw[hw];exact hk.size,λ b u m E=>⟨by rw[hw];exact hk.block b (by rw[<-hw];exact u) E,m⟩⟩;refine⟨.v v,β,σ,st1,_,_,rfl,rfl,y,trivial,A,Al4 (n v _ Z Y),B,Ab2,λ g g1 g2=>?_⟩;obtain⟨k1,I⟩:=C g g2 g1;exact⟨I,hk.block g (j.lt g g1) λ E=>(F g E).1 I,k1⟩
  ·exact m.elim
 ·rename_i c;rw[c] at d;cases d
 ·rename_i c;rw[c] at d;cases d
 ·rename_i c;rw[c] at d;cases d
 ·rename_i c;rw[c] at d;cases d
 ·rename_i c;rw[c] at d;cases d
 ·rename_i c;rw[c] at d;cases d
 ·rename_i c;rw[c] at d;cases d
 ·rename_i c;rw[c] at d;cases d
 ·rename_i c;rw[c] at d;cases d
 ·rename_i f first captured c
  split at h
  ·exact flat h
  ·rename_i x r aa
   rw[c] at d;simp[Fg8,Ft3,aa] at d
 ·exact flat h
theorem Run.Ex3 {W Wa:PW}{β:Nat->Nat}{σ:Nat->Value}(h:Run W0 M st W β σ a Wa){cs:List Value}{g:Nat}(A: ∃t,Wa.w.heap[g]?=some (.cells cs.toArray t (0,0)))(B:Wa.S g)(E:W0.w.heap.size<=g)(C:Ax6 st β σ g):
  Run W0 M (Ac4 st (.box cs)) W (upd β st.nx g) (upd σ st.nx undef) a Wa/\Ah1 st (Ac4 st (.box cs))/\(∀k,k<st.nx->upd β st.nx g k=β k/\upd σ st.nx undef k=σ k):=by
 have d: ∀k,k<st.nx->upd β st.nx g k=β k/\upd σ st.nx undef k=σ k:=λ k hk=>by simp[upd,show k≠st.nx by omega]
 have m: ∀k bl',look (Ac4 st (.box cs)).C k=some bl'->(k=st.nx/\bl' = .box cs)\/(k<st.nx/\look st.C k=some bl'):=by
  intro k bl' b;simp only[Ac4,Ab4] at b;split at b
  ·rename_i he;exact .inl ⟨he.symm,(Option.some.inj b).symm⟩
  ·exact .inr ⟨h.nC _ _ b,b⟩
 refine⟨⟨⟨h.rel.defers,h.rel.size,λ i s D=>?_,λ k bl' b=>?_,?_,h.rel.dom⟩,h.ext,h.Ai1,h.priv,h.lt,h.s0,h.b0,?_,?_⟩,?_,d⟩
 ·obtain⟨h1,n⟩:=h.rel.T i s D
  exact⟨h1.trans (Ar8 d n).symm,(Ay6 d n).mono (Nat.le_succ _)⟩
 ·rcases m k bl' b with⟨rfl,rfl⟩ | ⟨c,j⟩
  ·simp only[Cm9,upd,if_true]
   exact⟨A,B⟩
  ·exact(h.rel.C k bl' j).same d c λ g f=>⟨rfl,Ca6 (h.rel.C k bl' j) f⟩
 ·intro k k' u v l w h1 n q r
  have y: ∀k bl',look st.C k=some bl'->k<st.nx->Ab8 (upd β st.nx g) (upd σ st.nx undef) k bl'=some l->l≠g:=by
   intro k bl' b c f e;rw[Ad7 d c] at f;exact C k bl' b (e ▸ f)
  have new:Ab8 (upd β st.nx g) (upd σ st.nx undef) st.nx (.box cs)=some l->l=g:=λ e=>by
   simp only[Ab8,upd,if_true,Option.some.injEq] at e;exact e.symm
  rcases m k u h1 with⟨rfl,rfl⟩ | ⟨c,b⟩<;>rcases m k' v n with⟨rfl,rfl⟩ | ⟨z,j⟩
  ·exact w rfl
  ·exact y k' v j z r (new q)
  ·exact y k u b c q (new r)
  ·rw[Ad7 d c] at q
   rw[Ad7 d z] at r;exact h.rel.inj k k' u v l w b j q r
 ·intro k bl' b
  rcases m k bl' b with⟨rfl,_⟩ | ⟨c,_⟩
  ·exact Nat.lt_succ_self _
  ·exact Nat.lt_succ_of_lt c
 ·intro k bl' l b f
  rcases m k bl' b with⟨rfl,rfl⟩ | ⟨c,j⟩
  ·simp only[Ab8,upd,if_true,Option.some.injEq] at f
   omega
  ·rw[Ad7 d c] at f
   exact h.fresh k bl' l j f
 ·refine⟨Nat.le_succ _,rfl,[],rfl,λ k hk _=>?_⟩
  simp only[Ac4,Ab4];rw[if_neg (by omega)]
theorem Run.side {W Wa:PW}{β:Nat->Nat}{σ:Nat->Value}(h:Run W0 M st W β σ a Wa)(ob:Obj):Run W0 M st W β σ a ⟨Wa.w.alloc ob,λ b=>Wa.S b\/b=Wa.w.heap.size⟩ where
 rel:=⟨h.rel.defers,h.rel.size,h.rel.T,λ k bl f=>(h.rel.C k bl f).same (n:=k+1) (λ _ _=>⟨rfl,rfl⟩) (Nat.lt_succ_self k) λ g j=>by
   have c:=Ca6 (h.rel.C k bl f) j;exact⟨Bf3 _ _ (h.lt g c),.inl c⟩,h.rel.inj,h.rel.dom⟩
 ext:=h.ext.trans ⟨(Am7.alloc (λ _=>False) Wa.w ob).size,λ b l m=>⟨Bf3 _ _ l,λ c=>by rcases c with c | c;exact m c;omega⟩⟩
 Ai1:=h.Ai1.then (Am7.alloc (λ _=>False) Wa.w ob) λ i hi=>hi.elim
 priv:=λ b d=>by
  rcases d with c | c
  ·exact h.priv b c
  ·exact .inr (by have:=h.Ai1.size;omega)
 lt:=λ b d=>by
  have:=(Am7.alloc (λ _=>False) Wa.w ob).size;rcases d with c | c
  ·exact Nat.lt_of_lt_of_le (h.lt b c) this
  ·subst c
   simp
 s0:=λ b d=>.inl (h.s0 b d)
 b0:=h.b0
 nC:=h.nC
 fresh:=h.fresh
end Go.SX
