/- The program's structures,as data. Written by dec3.py. -/
import Derived.Test.YtaofbminodhcnaaZcai
set_option linter.unusedVariables false
set_option linter.unusedSimpArgs false
namespace Go.Proofs.Ytaofbminodhcnaa
open Go.RowKit
structure Call where
 Name:List UInt8
 File:Int
 At:Int
 deriving Inhabited,DecidableEq
def J2(x:Call):D:=.ag [.v (str x.Name),.v (.int .i64 x.File),.v (.int .i64 x.At)]
theorem JhR(x y:Call)(h:J2 x=J2 y):x=y:=by
 rcases x with⟨_,_,_⟩; rcases y with⟨_,_,_⟩
 simp only[J2,D.ag.injEq,List.cons.injEq,and_true]at h
 obtain⟨h0,h1,h2⟩:=h
 have h0:=Jd4 _ _ h0
 have h1:=K9 _ _ h1
 have h2:=K9 _ _ h2
 subst_vars
 rfl
theorem Jqr(x y:Call)(h:VC (J2 x)=VC (J2 y)):x=y:=by
 rcases x with⟨_,_,_⟩; rcases y with⟨_,_,_⟩
 simp only[J2,VC,JcS,List.map_cons,List.map_nil,D.ag.injEq,List.cons.injEq,and_true]at h
 obtain⟨h0,h1,h2⟩:=h
 have h0:=Jd4 _ _ h0
 have h1:=K9 _ _ h1
 have h2:=K9 _ _ h2
 subst_vars
 rfl
instance:DInj J2:=⟨Jqr,JhR⟩
structure Token where
 Kind:Int
 Text:List UInt8
 Space:Bool
 First:Bool
 File:Int
 At:Int
 End:Int
 Line:Int
 Hide:List (List UInt8)
 Calls:List Call
 Made:Int
 deriving Inhabited,DecidableEq
def Jb(x:Token):D:=.ag [.v (.int .i64 x.Kind),.v (str x.Text),.v (.bool x.Space),.v (.bool x.First),.v (.int .i64 x.File),.v (.int .i64 x.At),.v (.int .i64 x.End),.v (.int .i64 x.Line),.sl 1 (List.map dS x.Hide),.sl 3 (List.map J2 x.Calls),.v (.int .i64 x.Made)]
theorem JqL(x y:Token)(h:Jb x=Jb y):x=y:=by
 rcases x with⟨_,_,_,_,_,_,_,_,_,_,_⟩; rcases y with⟨_,_,_,_,_,_,_,_,_,_,_⟩
 simp only[Jb,D.ag.injEq,List.cons.injEq,and_true]at h
 obtain⟨h0,h1,h2,h3,h4,h5,h6,h7,h8,h9,h10⟩:=h
 have h0:=K9 _ _ h0
 have h1:=Jd4 _ _ h1
 have h2:=Jhd _ _ h2
 have h3:=Jhd _ _ h3
 have h4:=K9 _ _ h4
 have h5:=K9 _ _ h5
 have h6:=K9 _ _ h6
 have h7:=K9 _ _ h7
 have h8:=Jfz (sz:=1) Jd4 _ _ h8
 have h9:=Jfz (sz:=3) JhR _ _ h9
 have h10:=K9 _ _ h10
 subst_vars
 rfl
theorem Jp9(x y:Token)(h:VC (Jb x)=VC (Jb y)):x=y:=by
 rcases x with⟨_,_,_,_,_,_,_,_,_,_,_⟩; rcases y with⟨_,_,_,_,_,_,_,_,_,_,_⟩
 simp only[Jb,VC,JcS,List.map_cons,List.map_nil,D.ag.injEq,List.cons.injEq,and_true]at h
 obtain⟨h0,h1,h2,h3,h4,h5,h6,h7,h8,h9,h10⟩:=h
 have h0:=K9 _ _ h0
 have h1:=Jd4 _ _ h1
 have h2:=Jhd _ _ h2
 have h3:=Jhd _ _ h3
 have h4:=K9 _ _ h4
 have h5:=K9 _ _ h5
 have h6:=K9 _ _ h6
 have h7:=K9 _ _ h7
 have h8:=Jfz (sz:=0) Jd4 _ _ h8
 have h9:=Jfz (sz:=0) JhR _ _ h9
 have h10:=K9 _ _ h10
 subst_vars
 rfl
theorem Jtv(x:Token):(Jb x).cells.all D.one=true:=rfl
instance:DInj Jb:=⟨Jp9,JqL⟩
structure Spliced where
 Text:List UInt8
 At:List Int
 deriving Inhabited,DecidableEq
def Jas(x:Spliced):D:=.ag [.v (str x.Text),.sl 1 (List.map dI x.At)]
theorem Jou(x y:Spliced)(h:Jas x=Jas y):x=y:=by
 rcases x with⟨_,_⟩; rcases y with⟨_,_⟩
 simp only[Jas,D.ag.injEq,List.cons.injEq,and_true]at h
 obtain⟨h0,h1⟩:=h
 have h0:=Jd4 _ _ h0
 have h1:=Jfz (sz:=1) K9 _ _ h1
 subst_vars
 rfl
theorem Jl4(x y:Spliced)(h:VC (Jas x)=VC (Jas y)):x=y:=by
 rcases x with⟨_,_⟩; rcases y with⟨_,_⟩
 simp only[Jas,VC,JcS,List.map_cons,List.map_nil,D.ag.injEq,List.cons.injEq,and_true]at h
 obtain⟨h0,h1⟩:=h
 have h0:=Jd4 _ _ h0
 have h1:=Jfz (sz:=0) K9 _ _ h1
 subst_vars
 rfl
instance:DInj Jas:=⟨Jl4,Jou⟩
structure Fault where
 Err:Int
 File:Int
 At:Int
 deriving Inhabited,DecidableEq
def JW(x:Fault):D:=.ag [.v (.int .i64 x.Err),.v (.int .i64 x.File),.v (.int .i64 x.At)]
theorem JqK(x y:Fault)(h:JW x=JW y):x=y:=by
 rcases x with⟨_,_,_⟩; rcases y with⟨_,_,_⟩
 simp only[JW,D.ag.injEq,List.cons.injEq,and_true]at h
 obtain⟨h0,h1,h2⟩:=h
 have h0:=K9 _ _ h0
 have h1:=K9 _ _ h1
 have h2:=K9 _ _ h2
 subst_vars
 rfl
theorem Jqi(x y:Fault)(h:VC (JW x)=VC (JW y)):x=y:=by
 rcases x with⟨_,_,_⟩; rcases y with⟨_,_,_⟩
 simp only[JW,VC,JcS,List.map_cons,List.map_nil,D.ag.injEq,List.cons.injEq,and_true]at h
 obtain⟨h0,h1,h2⟩:=h
 have h0:=K9 _ _ h0
 have h1:=K9 _ _ h1
 have h2:=K9 _ _ h2
 subst_vars
 rfl
instance:DInj JW:=⟨Jqi,JqK⟩
structure Bind where
 Tok:Int
 Decl:Int
 deriving Inhabited,DecidableEq
def Jm(x:Bind):D:=.ag [.v (.int .i64 x.Tok),.v (.int .i64 x.Decl)]
theorem JsE(x y:Bind)(h:Jm x=Jm y):x=y:=by
 rcases x with⟨_,_⟩; rcases y with⟨_,_⟩
 simp only[Jm,D.ag.injEq,List.cons.injEq,and_true]at h
 obtain⟨h0,h1⟩:=h
 have h0:=K9 _ _ h0
 have h1:=K9 _ _ h1
 subst_vars
 rfl
theorem Jqw(x y:Bind)(h:VC (Jm x)=VC (Jm y)):x=y:=by
 rcases x with⟨_,_⟩; rcases y with⟨_,_⟩
 simp only[Jm,VC,JcS,List.map_cons,List.map_nil,D.ag.injEq,List.cons.injEq,and_true]at h
 obtain⟨h0,h1⟩:=h
 have h0:=K9 _ _ h0
 have h1:=K9 _ _ h1
 subst_vars
 rfl
theorem Jkw(x:Bind):(Jm x).cells.all D.one=true:=rfl
instance:DInj Jm:=⟨Jqw,JsE⟩
end Go.Proofs.Ytaofbminodhcnaa
