/- All printed walks. -/
import Derived.Test.YtfaojkajlpojlaaV19
